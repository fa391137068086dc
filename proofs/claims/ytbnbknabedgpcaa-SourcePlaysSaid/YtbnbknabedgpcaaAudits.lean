/- What an audit, answers and timeouts make of a source: plain law. -/
import Derived.Test.YtbnbknabedgpcaaWSourceStrays
namespace Go.Proofs.Ytbnbknabedgpcaa
open Go.RowKit

section
variable {β : Type} {l : List (Int × β)} {k k' : Int} {v : β}
theorem mlook_mput_same : ∀ (l : List (Int × β)) (k : Int) (v : β), mlook (mput l k v) k = some v
  | [], k, v => by simp [mput, mlook]
  | p :: l, k, v => by
    unfold mput
    split
    · simp [mlook]
    · rename_i h
      unfold mlook
      rw [if_neg h]
      exact mlook_mput_same l k v
theorem mlook_mput_ne (h : k' ≠ k) : ∀ l : List (Int × β), mlook (mput l k v) k' = mlook l k'
  | [] => by simp [mput, mlook, Ne.symm h]
  | p :: l => by
    unfold mput
    split
    · rename_i hp
      unfold mlook
      rw [if_neg (by simpa using Ne.symm h), if_neg (by rw [hp]; exact Ne.symm h)]
    · conv => lhs; unfold mlook
      conv => rhs; unfold mlook
      split
      · rfl
      · exact mlook_mput_ne h l
theorem mlook_mdel_ne (h : k' ≠ k) : ∀ l : List (Int × β), mlook (mdel l k) k' = mlook l k'
  | [] => rfl
  | p :: l => by
    unfold mdel
    split
    · rename_i hp
      conv => rhs; unfold mlook
      rw [if_neg (by rw [hp]; exact Ne.symm h)]
    · conv => lhs; unfold mlook
      conv => rhs; unfold mlook
      split
      · rfl
      · exact mlook_mdel_ne h l
theorem mlook_mdel_same : ∀ {l : List (Int × β)}, (l.map (·.1)).Nodup → mlook (mdel l k) k = none
  | [], _ => rfl
  | p :: l, hn => by
    simp only [List.map_cons, List.nodup_cons] at hn
    unfold mdel
    split
    · rename_i hp
      exact mlook_none fun q hq e => hn.1 (List.mem_map.2 ⟨q, hq, by rw [e, hp]⟩)
    · rename_i hp
      unfold mlook
      rw [if_neg hp]
      exact mlook_mdel_same hn.2
theorem mput_keys : ∀ (l : List (Int × β)), ∀ q, q ∈ (mput l k v).map (·.1) → q ∈ l.map (·.1) ∨ q = k
  | [], q, h => by simp [mput] at h; exact .inr h
  | p :: l, q, h => by
    unfold mput at h
    split at h
    · rename_i hp
      simp only [List.map_cons, List.mem_cons] at h ⊢
      rcases h with rfl | h
      · exact .inr rfl
      · exact .inl (.inr h)
    · simp only [List.map_cons, List.mem_cons] at h ⊢
      rcases h with rfl | h
      · exact .inl (.inl rfl)
      · rcases mput_keys l q h with h | h
        · exact .inl (.inr h)
        · exact .inr h
theorem mput_nodup : ∀ {l : List (Int × β)}, (l.map (·.1)).Nodup → ((mput l k v).map (·.1)).Nodup
  | [], _ => by simp [mput]
  | p :: l, hn => by
    simp only [List.map_cons, List.nodup_cons] at hn
    unfold mput
    split
    · rename_i hp
      simp only [List.map_cons, List.nodup_cons]
      rw [← hp]
      exact hn
    · rename_i hp
      simp only [List.map_cons, List.nodup_cons]
      refine ⟨fun h => ?_, mput_nodup hn.2⟩
      rcases mput_keys l _ h with h | h
      · exact hn.1 h
      · exact hp h
theorem mdel_sublist : ∀ (l : List (Int × β)), List.Sublist (mdel l k) l
  | [] => .slnil
  | p :: l => by
    unfold mdel
    split
    · exact List.sublist_cons_self _ _
    · exact (mdel_sublist l).cons_cons p
theorem mdel_nodup (hn : (l.map (·.1)).Nodup) : ((mdel l k).map (·.1)).Nodup := ((mdel_sublist l).map _).nodup hn
theorem mlook_all_none (h : ∀ t, mlook l t = none) : l = [] := by
  cases l with
  | nil => rfl
  | cons p l => have := h p.1; unfold mlook at this; rw [if_pos rfl] at this; cases this
end

theorem has_free (s : Pl) (t u : Int) : (s.free t).1.has u = (s.has u && !(decide (u = t))) := by
  unfold Pl.free
  by_cases h : s.has t = true
  · rw [if_pos h]
    have hr := has_range h
    unfold Pl.has
    by_cases hu : 64 ≤ u ∧ u ≤ 126
    · simp only [hu, Nat.testBit_xor, Nat.testBit_two_pow]
      by_cases e : u = t
      · subst e
        unfold Pl.has at h
        simp only [hr, and_self, decide_true, Bool.true_and] at h
        simp [h]
      · have : ¬ (t.toNat - 64 = u.toNat - 64) := by omega
        simp [this, e]
    · simp [hu]
  · rw [if_neg h]
    by_cases e : u = t
    · subst e
      simp [h]
    · simp [e]

def upd {α : Type} (f : Int → α) (t : Int) (v : α) : Int → α := fun u => if u = t then v else f u
theorem upd_same {α : Type} (f : Int → α) (t : Int) (v : α) : upd f t v t = v := if_pos rfl
theorem upd_ne {α : Type} (f : Int → α) {t u : Int} (v : α) (h : u ≠ t) : upd f t v u = f u := if_neg h

def inn (n : Nat) (t : Int) : Prop := 64 ≤ t ∧ t < 64 + (n : Int)
instance (n : Nat) (t : Int) : Decidable (inn n t) := by unfold inn; infer_instance
def chkOf (n : Nat) (c : Int) (p : Nat) (t : Int) : Option Chk :=
  if inn n t then (if c = 0 then (if p = 0 then some ⟨t, 1, 0⟩ else if p = 1 then some ⟨t, 2, 0⟩ else none) else if c = 1 ∧ p = 0 then some ⟨t, 1, 1⟩ else none) else none
def hasOf (n : Nat) (c : Int) (p : Nat) (t : Int) : Bool := decide (inn n t ∧ (c = 1 ∨ (c = 0 ∧ p < 2)))
/-- what is assigned, and checked, when cnt t have answered for t, and t's timer was over ph t times -/
structure Au (n : Nat) (cnt : Int → Int) (ph : Int → Nat) (x : Sr) : Prop where
  ok : x.Ok
  nd : (x.checks.map (·.1)).Nodup
  has : ∀ t, x.pool.has t = hasOf n (cnt t) (ph t) t
  look : ∀ t, mlook x.checks t = chkOf n (cnt t) (ph t) t

theorem Sr.Ok.remove' {x : Sr} (ok : x.Ok) (t : Int) : (x.remove t).1.Ok :=
  Sr.Ok.remove ok.on ok.last t fun p hp => ok.all p ((mdel_sublist _).subset hp)

theorem Au.respond {n : Nat} {cnt : Int → Int} {x : Sr} (h : Au n cnt (fun _ => 0) x) {t : Int} (hc : 0 ≤ cnt t) (ht : inn n t) : Au n (upd cnt t (cnt t + 1)) (fun _ => 0) (x.response t).1 := by
  have hl := h.look t
  have hok := h.ok.response t
  have hs : (x.response t).1 = if cnt t = 0 then ⟨x.pool, mput x.checks t ⟨t, 1, 1⟩⟩ else if cnt t = 1 then ⟨(x.pool.free t).1, mdel (mput x.checks t ⟨t, 1, 2⟩) t⟩ else x := by
    unfold Sr.response
    rw [hl]
    unfold chkOf
    rw [if_pos ht]
    by_cases h0 : cnt t = 0
    · rw [if_pos h0, if_pos h0, if_pos rfl]
      simp
    · rw [if_neg h0, if_neg h0]
      by_cases h1 : cnt t = 1
      · rw [if_pos ⟨h1, rfl⟩, if_pos h1]
        simp [Sr.remove]
      · rw [if_neg (fun h => h1 h.1), if_neg h1]
  rw [hs] at hok ⊢
  by_cases h0 : cnt t = 0
  · rw [if_pos h0] at hok ⊢
    refine ⟨hok, mput_nodup h.nd, fun u => ?_, fun u => ?_⟩
    · have := h.has u
      by_cases hu : u = t
      · subst hu
        rw [upd_same]
        simp only [] at this ⊢
        rw [this]
        simp [hasOf, h0]
      · rw [upd_ne _ _ hu]; exact this
    · by_cases hu : u = t
      · subst hu
        rw [upd_same]
        simp only []
        rw [mlook_mput_same]
        simp [chkOf, h0, ht]
      · rw [upd_ne _ _ hu]
        simp only []
        rw [mlook_mput_ne hu]
        exact h.look u
  · rw [if_neg h0] at hok ⊢
    by_cases h1 : cnt t = 1
    · rw [if_pos h1] at hok ⊢
      refine ⟨hok, mdel_nodup (mput_nodup h.nd), fun u => ?_, fun u => ?_⟩
      · have := h.has u
        simp only []
        rw [has_free, this]
        by_cases hu : u = t
        · subst hu
          rw [upd_same]
          simp [hasOf, h1]
        · rw [upd_ne _ _ hu]; simp [hu]
      · by_cases hu : u = t
        · subst hu
          rw [upd_same]
          simp only []
          rw [mlook_mdel_same (mput_nodup h.nd)]
          simp [chkOf, h1]
        · rw [upd_ne _ _ hu]
          simp only []
          rw [mlook_mdel_ne hu, mlook_mput_ne hu]
          exact h.look u
    · rw [if_neg h1] at hok ⊢
      refine ⟨hok, h.nd, fun u => ?_, fun u => ?_⟩
      · by_cases hu : u = t
        · subst hu
          rw [upd_same, h.has]
          simp [hasOf, h0, h1]
          intro; omega
        · rw [upd_ne _ _ hu]; exact h.has u
      · by_cases hu : u = t
        · subst hu
          rw [upd_same, h.look]
          have e1 : ¬ (cnt u + 1 = 0) := by omega
          have e2 : ¬ (cnt u + 1 = 1) := by omega
          simp [chkOf, h0, h1, e1, e2]
        · rw [upd_ne _ _ hu]; exact h.look u

theorem Au.over {n : Nat} {cnt : Int → Int} {ph : Int → Nat} {x : Sr} (h : Au n cnt ph x) (t : Int) : Au n cnt (upd ph t (ph t + 1)) (x.timeout t).1 := by
  have hl := h.look t
  have hh := h.has t
  have hs : (x.timeout t).1 = if inn n t ∧ cnt t = 0 ∧ ph t = 0 then ⟨x.pool, mput x.checks t ⟨t, 2, 0⟩⟩ else if inn n t ∧ cnt t = 0 ∧ ph t = 1 then ⟨(x.pool.free t).1, mdel x.checks t⟩ else if inn n t ∧ cnt t = 1 ∧ ph t = 0 then ⟨x.pool, mdel x.checks t⟩ else x := by
    unfold Sr.timeout
    rw [hl]
    unfold chkOf
    by_cases ht : inn n t
    · by_cases h0 : cnt t = 0
      · by_cases p0 : ph t = 0
        · simp [ht, h0, p0, Sr.ask, hl, chkOf]
        · by_cases p1 : ph t = 1
          · simp [ht, h0, p1]
          · simp [ht, h0, p0, p1]
      · by_cases h1 : cnt t = 1 ∧ ph t = 0
        · simp [ht, h1.1, h1.2]
        · simp [ht, h0, h1]
    · simp [ht]
  have okp : ∀ p ∈ mdel x.checks t, p.2.tei = p.1 ∧ 64 ≤ p.1 ∧ p.1 ≤ 126 ∧ 1 ≤ p.2.asked ∧ p.2.asked ≤ 2 ∧ 0 ≤ p.2.ans ∧ p.2.ans ≤ 1 := fun p hp => h.ok.all p ((mdel_sublist _).subset hp)
  rw [hs]
  have look_ne : ∀ u, u ≠ t → ∀ l' : List (Int × Chk), mlook l' u = mlook x.checks u → mlook l' u = chkOf n (cnt u) (upd ph t (ph t + 1) u) u := fun u hu l' e => by rw [upd_ne _ _ hu, e, h.look]
  by_cases c1 : inn n t ∧ cnt t = 0 ∧ ph t = 0
  · rw [if_pos c1]
    obtain ⟨ht, h0, p0⟩ := c1
    have hr := has_range (hh.trans (by simp [hasOf, ht, h0, p0]))
    refine ⟨h.ok.put hr.1 hr.2 (by omega) (by omega) (by omega) (by omega), mput_nodup h.nd, fun u => ?_, fun u => ?_⟩
    · by_cases hu : u = t
      · subst hu
        rw [upd_same]
        simp only []
        rw [hh]
        simp [hasOf, h0, p0]
      · rw [upd_ne _ _ hu]; exact h.has u
    · by_cases hu : u = t
      · subst hu
        rw [upd_same]
        simp only []
        rw [mlook_mput_same]
        simp [chkOf, ht, h0, p0]
      · exact look_ne u hu _ (mlook_mput_ne hu _)
  rw [if_neg c1]
  by_cases c2 : inn n t ∧ cnt t = 0 ∧ ph t = 1
  · rw [if_pos c2]
    obtain ⟨ht, h0, p1⟩ := c2
    have hf := free_ok x.pool t h.ok.on
    refine ⟨⟨hf.1, by simp only []; rw [hf.2]; exact h.ok.last, okp⟩, mdel_nodup h.nd, fun u => ?_, fun u => ?_⟩
    · simp only []
      rw [has_free]
      by_cases hu : u = t
      · subst hu
        rw [upd_same]
        simp [hasOf, h0, p1]
      · rw [upd_ne _ _ hu, h.has u]; simp [hu]
    · by_cases hu : u = t
      · subst hu
        rw [upd_same]
        simp only []
        rw [mlook_mdel_same h.nd]
        simp [chkOf, h0, p1]
      · exact look_ne u hu _ (mlook_mdel_ne hu _)
  rw [if_neg c2]
  by_cases c3 : inn n t ∧ cnt t = 1 ∧ ph t = 0
  · rw [if_pos c3]
    obtain ⟨ht, h1, p0⟩ := c3
    refine ⟨⟨h.ok.on, h.ok.last, okp⟩, mdel_nodup h.nd, fun u => ?_, fun u => ?_⟩
    · by_cases hu : u = t
      · subst hu
        rw [upd_same]
        simp only []
        rw [hh]
        simp [hasOf, h1]
      · rw [upd_ne _ _ hu]; exact h.has u
    · by_cases hu : u = t
      · subst hu
        rw [upd_same]
        simp only []
        rw [mlook_mdel_same h.nd]
        simp [chkOf, h1]
      · exact look_ne u hu _ (mlook_mdel_ne hu _)
  rw [if_neg c3]
  refine ⟨h.ok, h.nd, fun u => ?_, fun u => ?_⟩
  · by_cases hu : u = t
    · subst hu
      rw [upd_same, hh]
      by_cases ht : inn n u
      · by_cases h0 : cnt u = 0
        · have p0 : ¬ ph u = 0 := fun e => c1 ⟨ht, h0, e⟩
          have p1 : ¬ ph u = 1 := fun e => c2 ⟨ht, h0, e⟩
          simp [hasOf, ht, h0]; omega
        · simp [hasOf, ht, h0]
      · simp [hasOf, ht]
    · rw [upd_ne _ _ hu]; exact h.has u
  · by_cases hu : u = t
    · subst hu
      rw [upd_same, hl]
      by_cases ht : inn n u
      · by_cases h0 : cnt u = 0
        · have p0 : ¬ ph u = 0 := fun e => c1 ⟨ht, h0, e⟩
          have p1 : ¬ ph u = 1 := fun e => c2 ⟨ht, h0, e⟩
          have p2 : ¬ ph u + 1 = 0 := by omega
          simp [chkOf, h0, p0, p1]
        · have p3 : ¬ (cnt u = 1 ∧ ph u = 0) := fun e => c3 ⟨ht, e⟩
          simp [chkOf, h0]
          intro _ e
          by_cases p0 : ph u = 0
          · exact absurd ⟨e, p0⟩ p3
          · simp [p0]
      · simp [chkOf, ht]
    · exact look_ne u hu _ rfl

theorem look_auditK : ∀ (l : List Nat) (c : List (Int × Chk)) (t : Int), mlook (l.foldl (fun c (i : Nat) => mput c (64 + (i : Int)) ⟨64 + (i : Int), 1, 0⟩) c) t = if ∃ i ∈ l, t = 64 + (i : Int) then some ⟨t, 1, 0⟩ else mlook c t
  | [], c, t => by simp
  | j :: l, c, t => by
    rw [List.foldl_cons, look_auditK l]
    by_cases h : ∃ i ∈ l, t = 64 + (i : Int)
    · obtain ⟨i, hi, e⟩ := h
      rw [if_pos ⟨i, hi, e⟩, if_pos ⟨i, List.mem_cons_of_mem _ hi, e⟩]
    · rw [if_neg h]
      by_cases e : t = 64 + (j : Int)
      · rw [if_pos ⟨j, by simp, e⟩, e, mlook_mput_same]
      · rw [if_neg, mlook_mput_ne e]
        rintro ⟨i, hi, e2⟩
        simp only [List.mem_cons] at hi
        rcases hi with rfl | hi
        · exact e e2
        · exact h ⟨i, hi, e2⟩
theorem nd_auditK : ∀ (l : List Nat) (c : List (Int × Chk)), (c.map (·.1)).Nodup → ((l.foldl (fun c (i : Nat) => mput c (64 + (i : Int)) ⟨64 + (i : Int), 1, 0⟩) c).map (·.1)).Nodup
  | [], c, h => h
  | j :: l, c, h => by
    rw [List.foldl_cons]
    exact nd_auditK l _ (mput_nodup h)
theorem DP_mem (n : Nat) (hn : n ≤ 63) (i : Nat) : i ∈ (DP n).upto 63 ↔ i < n := by
  have key : ∀ (i j : Fin 64), (DP i).on.testBit j = decide ((j : Nat) < i) := by decide +kernel
  unfold Pl.upto
  rw [List.mem_filter, List.mem_range]
  constructor
  · rintro ⟨h1, h2⟩
    have := key ⟨n, by omega⟩ ⟨i, by omega⟩
    simp only [] at this
    rw [this] at h2
    simpa using h2
  · intro h
    refine ⟨by omega, ?_⟩
    have := key ⟨n, by omega⟩ ⟨i, by omega⟩
    simp only [] at this
    rw [this]
    simpa using h
theorem Au.start (n : Nat) (hn : n ≤ 63) (ok : Sr.Ok ⟨DP n, []⟩) : Au n (fun _ => 0) (fun _ => 0) (Sr.audit ⟨DP n, []⟩).1 := by
  refine ⟨ok.audit, nd_auditK _ _ (by simp), fun t => ?_, fun t => ?_⟩
  · show (DP n).has t = _
    rw [DP_has n hn]
    simp [hasOf, inn]
  · show mlook (((DP n).upto 63).foldl _ []) t = _
    rw [look_auditK]
    have e : (∃ i ∈ (DP n).upto 63, t = 64 + (i : Int)) ↔ inn n t := by
      unfold inn
      constructor
      · rintro ⟨i, hi, e⟩
        have := (DP_mem n hn i).1 hi
        omega
      · intro h
        exact ⟨(t - 64).toNat, (DP_mem n hn _).2 (by omega), by omega⟩
    simp only [e]
    by_cases h : inn n t
    · simp [chkOf, h]
    · simp [chkOf, h, mlook]
/-- behind both rounds of timers -/
theorem Au.done {n : Nat} {cnt : Int → Int} {ph : Int → Nat} {x : Sr} (h : Au n cnt ph x) (hp : ∀ t, inn n t → ph t = 2) : x.checks = [] ∧ ∀ t, x.pool.has t = decide (inn n t ∧ cnt t = 1) := by
  constructor
  · refine mlook_all_none fun t => ?_
    rw [h.look]
    unfold chkOf
    by_cases ht : inn n t
    · simp [hp t ht]
    · simp [ht]
  · intro t
    rw [h.has]
    unfold hasOf
    by_cases ht : inn n t
    · simp [hp t ht]
    · simp [ht]
end Go.Proofs.Ytbnbknabedgpcaa
