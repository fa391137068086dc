/- What a source tells, taken down: plain law. -/
import Derived.Test.YtbnbknabedgpcaaAudits
namespace Go.Proofs.Ytbnbknabedgpcaa
open Go.RowKit

/-- what was told: who is assigned, whose timer runs -/
structure Tl where
  f : Int → Bool
  g : Int → Bool
def Tl.step (s : Tl) (e : Ef) : Option Tl :=
  if e.kind = 1 ∨ e.kind = 2 then (if s.f e.tei = decide (e.kind = 1) then none else some ⟨upd s.f e.tei (decide (e.kind = 1)), s.g⟩)
  else if e.kind = 3 then some ⟨s.f, upd s.g e.tei true⟩
  else if e.kind = 4 then (if s.g e.tei = true then some ⟨s.f, upd s.g e.tei false⟩ else none)
  else some s
def Tl.all : List Ef → Tl → Option Tl
  | [], s => some s
  | e :: l, s => (s.step e).bind (Tl.all l)
theorem Tl.all_append (l m : List Ef) (s : Tl) : Tl.all (l ++ m) s = (Tl.all l s).bind (Tl.all m) := by
  induction l generalizing s with
  | nil => rfl
  | cons e l ih =>
    rw [List.cons_append]
    unfold Tl.all
    cases h : s.step e with
    | none => rfl
    | some s' => exact ih s'
theorem step_said (s : Tl) (t ri ai : Int) : s.step (.said t ri ai) = some s := by unfold Tl.step Ef.said; simp
theorem step_given (s : Tl) (t : Int) (h : s.f t = false) : s.step (.of 1 t) = some ⟨upd s.f t true, s.g⟩ := by unfold Tl.step Ef.of; simp [h]
theorem step_freed (s : Tl) (t : Int) (h : s.f t = true) : s.step (.of 2 t) = some ⟨upd s.f t false, s.g⟩ := by unfold Tl.step Ef.of; simp [h]
theorem step_start (s : Tl) (t : Int) : s.step (.of 3 t) = some ⟨s.f, upd s.g t true⟩ := by unfold Tl.step Ef.of; simp
theorem step_stop (s : Tl) (t : Int) (h : s.g t = true) : s.step (.of 4 t) = some ⟨s.f, upd s.g t false⟩ := by unfold Tl.step Ef.of; simp [h]

theorem all_said (s : Tl) (t ri ai : Int) (l : List Ef) : Tl.all (.said t ri ai :: l) s = Tl.all l s := by
  show (s.step _).bind _ = _
  rw [step_said]
  rfl
theorem all_start (s : Tl) (t : Int) (l : List Ef) : Tl.all (.of 3 t :: l) s = Tl.all l ⟨s.f, upd s.g t true⟩ := by
  show (s.step _).bind _ = _
  rw [step_start]
  rfl

/-- what was told is so -/
structure Gv (x : Sr) (s : Tl) : Prop where
  ok : x.Ok
  nd : (x.checks.map (·.1)).Nodup
  on : ∀ t, s.f t = x.pool.has t
  run : ∀ t, s.g t = (mlook x.checks t).isSome
  sub : ∀ t, (mlook x.checks t).isSome = true → x.pool.has t = true

theorem upd_iff {f : Int → Bool} {t u : Int} {v : Bool} : upd f t v u = if u = t then v else f u := rfl
theorem isSome_put (l : List (Int × Chk)) (t u : Int) (v : Chk) : (mlook (mput l t v) u).isSome = upd (fun u => (mlook l u).isSome) t true u := by
  unfold upd
  by_cases h : u = t
  · subst h; rw [if_pos rfl, mlook_mput_same]; rfl
  · rw [if_neg h, mlook_mput_ne h]
theorem isSome_del {l : List (Int × Chk)} (hn : (l.map (·.1)).Nodup) (t u : Int) : (mlook (mdel l t) u).isSome = upd (fun u => (mlook l u).isSome) t false u := by
  unfold upd
  by_cases h : u = t
  · subst h; rw [if_pos rfl, mlook_mdel_same hn]; rfl
  · rw [if_neg h, mlook_mdel_ne h]

theorem Gv.nil : Gv ⟨DP 0, []⟩ ⟨fun _ => false, fun _ => false⟩ :=
  ⟨Sr.Ok.new, by simp, fun t => by rw [DP_has 0 (by omega)]; simp <;> omega, fun _ => rfl, fun t h => by cases h⟩

/-- a check asks -/
theorem Gv.ask {x : Sr} {s : Tl} (h : Gv x s) {t : Int} (ht : x.pool.has t = true) (ha : ((mlook x.checks t).getD ⟨0, 0, 0⟩).asked ≤ 1) : ∃ s', Tl.all (x.ask t).2 s = some s' ∧ Gv (x.ask t).1 s' := by
  have hr := has_range ht
  refine ⟨⟨s.f, upd s.g t true⟩, ?_, h.ok.ask t hr.1 hr.2 ha, mput_nodup h.nd, h.on, fun u => ?_, fun u hu => ?_⟩
  · show Tl.all [.said 4 0 t, .of 3 t] s = _
    rw [all_said, all_start]
    rfl
  · show upd s.g t true u = (mlook (mput _ _ _) u).isSome
    rw [isSome_put]
    unfold upd
    split
    · rfl
    · exact h.run u
  · have hu' : (mlook (mput x.checks t _) u).isSome = true := hu
    rw [isSome_put] at hu'
    unfold upd at hu'
    split at hu'
    · rename_i e; rw [e]; exact ht
    · exact h.sub u hu'

/-- a check is put anew -/
theorem Gv.again {x : Sr} {s : Tl} (h : Gv x s) {t a n : Int} (hl : (mlook x.checks t).isSome = true) (h3 : 1 ≤ a) (h4 : a ≤ 2) (h5 : 0 ≤ n) (h6 : n ≤ 1) : Gv ⟨x.pool, mput x.checks t ⟨t, a, n⟩⟩ s := by
  have hr := has_range (h.sub t hl)
  refine ⟨h.ok.put hr.1 hr.2 h3 h4 h5 h6, mput_nodup h.nd, h.on, fun u => ?_, fun u hu => ?_⟩
  · simp only []
    rw [isSome_put, h.run]
    unfold upd
    split
    · rename_i e; rw [e]; exact hl
    · rfl
  · simp only [] at hu ⊢
    rw [isSome_put] at hu
    unfold upd at hu
    split at hu
    · rename_i e; rw [e]; exact h.sub t hl
    · exact h.sub u hu

theorem free_snd (s : Pl) (t : Int) : (s.free t).2 = s.has t := by
  unfold Pl.free
  by_cases h : s.has t = true
  · rw [if_pos h, h]
  · rw [if_neg h]; simp at h; rw [h]

/-- a TEI goes -/
theorem Gv.remove {x : Sr} {s : Tl} (h : Gv x s) (t : Int) (hok : (x.remove t).1.Ok) : ∃ s', Tl.all (x.remove t).2 s = some s' ∧ Gv (x.remove t).1 s' := by
  have e0 : (x.remove t).2 = [.said 6 0 t, .said 6 0 t] ++ ((if (mlook x.checks t).isSome = true then [.of 4 t] else []) ++ (if x.pool.has t = true then [.of 2 t] else [])) := by
    unfold Sr.remove
    simp only [free_snd, List.append_assoc]
  have e1 : Tl.all [.said 6 0 t, .said 6 0 t] s = some s := by
    rw [all_said, all_said]
    rfl
  have e2 : Tl.all (if (mlook x.checks t).isSome = true then [.of 4 t] else []) s = some ⟨s.f, upd s.g t false⟩ := by
    by_cases hc : (mlook x.checks t).isSome = true
    · rw [if_pos hc]
      show (s.step _).bind _ = _
      rw [step_stop s t (by rw [h.run]; exact hc)]
      rfl
    · rw [if_neg hc]
      have : upd s.g t false = s.g := by
        funext u
        unfold upd
        split
        · rename_i e; rw [e, h.run]; simpa using hc
        · rfl
      rw [this]
      rfl
  have e3 : Tl.all (if x.pool.has t = true then [.of 2 t] else []) ⟨s.f, upd s.g t false⟩ = some ⟨upd s.f t false, upd s.g t false⟩ := by
    by_cases hc : x.pool.has t = true
    · rw [if_pos hc]
      show (Tl.step _ _).bind _ = _
      rw [step_freed _ t (by simp only []; rw [h.on]; exact hc)]
      rfl
    · rw [if_neg hc]
      have : upd s.f t false = s.f := by
        funext u
        unfold upd
        split
        · rename_i e; rw [e, h.on]; simpa using hc
        · rfl
      rw [this]
      rfl
  refine ⟨⟨upd s.f t false, upd s.g t false⟩, ?_, hok, mdel_nodup h.nd, fun u => ?_, fun u => ?_, fun u hu => ?_⟩
  · rw [e0, Tl.all_append, e1]
    show Tl.all _ s = _
    rw [Tl.all_append, e2]
    exact e3
  · show upd s.f t false u = (x.pool.free t).1.has u
    rw [has_free, ← h.on]
    unfold upd
    by_cases hu : u = t
    · simp [hu]
    · simp [hu]
  · show upd s.g t false u = (mlook (mdel x.checks t) u).isSome
    rw [isSome_del h.nd]
    unfold upd
    split
    · rfl
    · exact h.run u
  · have hu' : (mlook (mdel x.checks t) u).isSome = true := hu
    rw [isSome_del h.nd] at hu'
    show (x.pool.free t).1.has u = true
    rw [has_free]
    unfold upd at hu'
    split at hu'
    · cases hu'
    · rename_i e
      rw [h.sub u hu']
      simp [e]

theorem Gv.stray {x : Sr} {s : Tl} (h : Gv x s) (t : Int) : Tl.all (x.stray t) s = some s := by
  unfold Sr.stray
  split
  · rfl
  · show (s.step _).bind _ = _
    rw [step_said]
    rfl

theorem Gv.response {x : Sr} {s : Tl} (h : Gv x s) (t : Int) : ∃ s', Tl.all (x.response t).2 s = some s' ∧ Gv (x.response t).1 s' := by
  have hok := h.ok.response t
  unfold Sr.response at hok ⊢
  cases hl : mlook x.checks t with
  | none =>
    simp only [] at hok ⊢
    exact ⟨s, h.stray t, h⟩
  | some c =>
    obtain ⟨ct, ca, cn⟩ := c
    have hm := h.ok.all _ (mlook_mem hl)
    simp only [] at hm
    obtain ⟨hct, hm⟩ := hm
    subst ct
    rw [hl] at hok
    simp only [] at hok ⊢
    by_cases hc : 1 < cn + 1
    · rw [if_pos hc] at hok ⊢
      -- as if the check were put first: the answers' number has no part in what is told
      have hg : Gv ⟨x.pool, mput x.checks t ⟨t, ca, 1⟩⟩ s := h.again (by rw [hl]; rfl) (by omega) (by omega) (by omega) (by omega)
      have e : (Sr.remove ⟨x.pool, mput x.checks t ⟨t, ca, cn + 1⟩⟩ t) = (Sr.remove ⟨x.pool, mput x.checks t ⟨t, ca, 1⟩⟩ t) := by
        unfold Sr.remove
        simp only [mlook_mput_same]
        rw [mdel_mput (by rw [hl]; simp), mdel_mput (by rw [hl]; simp)]
        rfl
      rw [e] at hok ⊢
      exact hg.remove t hok
    · rw [if_neg hc] at hok ⊢
      exact ⟨s, rfl, h.again (by rw [hl]; rfl) (by omega) (by omega) (by omega) (by omega)⟩

theorem Gv.check {x : Sr} {s : Tl} (h : Gv x s) (t : Int) : ∃ s', Tl.all (x.check t).2.1 s = some s' ∧ Gv (x.check t).1 s' := by
  unfold Sr.check
  by_cases hh : x.pool.has t = false
  · rw [if_pos hh]; exact ⟨s, rfl, h⟩
  · rw [if_neg hh]
    cases hl : mlook x.checks t with
    | some c => exact ⟨s, rfl, h⟩
    | none => exact h.ask (by simpa using hh) (by rw [hl]; decide)

theorem audit_aux : ∀ (l : List Nat) (x : Sr) (s : Tl), Gv x s → (∀ i ∈ l, x.pool.has (64 + (i : Int)) = true) → ∃ s', Tl.all (l.map fun (i : Nat) => .of 3 (64 + (i : Int))) s = some s' ∧ Gv (x.auditK l) s'
  | [], x, s, h, _ => ⟨s, rfl, h⟩
  | i :: l, x, s, h, hl => by
    have hi := hl i (by simp)
    have hr := has_range hi
    have h2 : Gv ⟨x.pool, mput x.checks (64 + (i : Int)) ⟨64 + (i : Int), 1, 0⟩⟩ ⟨s.f, upd s.g (64 + (i : Int)) true⟩ := by
      refine ⟨h.ok.put hr.1 hr.2 (by omega) (by omega) (by omega) (by omega), mput_nodup h.nd, h.on, fun u => ?_, fun u hu => ?_⟩
      · simp only []
        rw [isSome_put]
        unfold upd
        split
        · rfl
        · exact h.run u
      · simp only [] at hu ⊢
        rw [isSome_put] at hu
        unfold upd at hu
        split at hu
        · rename_i e; rw [e]; exact hi
        · exact h.sub u hu
    obtain ⟨s', e, h3⟩ := audit_aux l _ _ h2 (fun j hj => hl j (by simp [hj]))
    refine ⟨s', ?_, h3⟩
    show (s.step _).bind _ = _
    rw [step_start]
    exact e
theorem upto_has {s : Pl} {i : Nat} (h : i ∈ s.upto 63) : s.has (64 + (i : Int)) = true := by
  have := List.mem_filter.1 h
  have h1 := List.mem_range.1 this.1
  unfold Pl.has
  rw [decide_eq_true (by omega), Bool.true_and, show (64 + (i : Int)).toNat - 64 = i by omega]
  exact this.2
theorem Gv.audit {x : Sr} {s : Tl} (h : Gv x s) : ∃ s', Tl.all x.audit.2 s = some s' ∧ Gv x.audit.1 s' := by
  obtain ⟨s', e, h2⟩ := audit_aux (x.pool.upto 63) x s h (fun i hi => upto_has hi)
  refine ⟨s', ?_, h2⟩
  show (s.step _).bind _ = _
  rw [step_said]
  exact e

theorem has_on {s s' : Pl} (h : s'.on = s.on) (u : Int) : s'.has u = s.has u := by unfold Pl.has; rw [h]
theorem seek_law : ∀ (k : Nat) (s : Pl), ((Pl.seek k s).2.2 = 0 → s.has (Pl.seek k s).2.1 = false ∧ ∀ u, (Pl.seek k s).1.has u = (s.has u || decide (u = (Pl.seek k s).2.1))) ∧ ((Pl.seek k s).2.2 ≠ 0 → ∀ u, (Pl.seek k s).1.has u = s.has u)
  | 0, s => ⟨fun h => by simp [Pl.seek] at h, fun _ _ => rfl⟩
  | k + 1, s => by
    unfold Pl.seek
    split
    · exact seek_law k ⟨s.on, (s.last + 1) % 63⟩
    · rename_i hb
      refine ⟨fun _ => ?_, fun h => absurd rfl h⟩
      simp only []
      have hi : (s.last + 1) % 63 < 63 := Nat.mod_lt _ (by decide)
      generalize (s.last + 1) % 63 = i at *
      constructor
      · unfold Pl.has
        rw [show (64 + (i : Int)).toNat - 64 = i by omega]
        simp [hb]
      · intro u
        unfold Pl.has
        by_cases hu : 64 ≤ u ∧ u ≤ 126
        · simp only [hu, Nat.testBit_or, Nat.testBit_two_pow]
          by_cases e : u = 64 + (i : Int)
          · subst e
            rw [show (64 + (i : Int)).toNat - 64 = i by omega]
            simp
          · have : ¬ (i = u.toNat - 64) := by omega
            simp [this, e]
        · have : ¬ (u = 64 + (i : Int)) := by omega
          simp [hu, this]

theorem Gv.request {x : Sr} {s : Tl} (h : Gv x s) (m : Msg) : ∃ s', Tl.all (x.request m).2 s = some s' ∧ Gv (x.request m).1 s' := by
  have hok := h.ok.request m
  have hs := seek_law 63 x.pool
  unfold Sr.request at hok ⊢
  by_cases h1 : m.ai ≠ 127
  · rw [if_pos h1]
    refine ⟨s, ?_, h⟩
    show (s.step _).bind _ = _
    rw [step_said]
    rfl
  rw [if_neg h1] at hok ⊢
  by_cases h2 : (Pl.seek 63 x.pool).2.2 = 0
  · rw [if_pos h2] at hok ⊢
    obtain ⟨h3, h4⟩ := hs.1 h2
    generalize Pl.seek 63 x.pool = r at *
    obtain ⟨p, t, c⟩ := r
    simp only [] at *
    refine ⟨⟨upd s.f t true, s.g⟩, ?_, hok, h.nd, fun u => ?_, h.run, fun u hu => ?_⟩
    · rw [all_said]
      show (s.step _).bind _ = _
      rw [step_given s t (by rw [h.on]; exact h3)]
      rfl
    · simp only []
      rw [h4, ← h.on]
      unfold upd
      by_cases e : u = t
      · simp [e]
      · simp [e]
    · simp only [] at hu ⊢
      rw [h4, h.sub u hu]
      rfl
  · rw [if_neg h2] at hok ⊢
    have h4 := hs.2 h2
    have hb := seek_on 63 x.pool h.ok.on h.ok.last
    have hg : Gv ⟨(Pl.seek 63 x.pool).1, x.checks⟩ s := ⟨⟨hb.1, hb.2, h.ok.all⟩, h.nd, fun u => by rw [h.on]; exact (h4 u).symm, h.run, fun u hu => (h4 u).trans (h.sub u hu)⟩
    obtain ⟨s', e, h5⟩ := hg.audit
    refine ⟨s', ?_, h5⟩
    show (s.step _).bind _ = _
    rw [step_said]
    exact e

theorem check_same {x : Sr} {t : Int} (h : (x.check t).2.2 ≠ 0) : (x.check t).1 = x := by
  unfold Sr.check at h ⊢
  split
  · rfl
  · cases hl : mlook x.checks t with
    | some c => rfl
    | none =>
      rename_i hh
      rw [if_neg hh, hl] at h
      exact absurd rfl h

theorem Gv.message {x : Sr} {s : Tl} (h : Gv x s) (m : Msg) : ∃ s', Tl.all (x.message m).2 s = some s' ∧ Gv (x.message m).1 s' := by
  unfold Sr.message
  split
  · exact ⟨s, rfl, h⟩
  split
  · exact h.request m
  split
  · exact h.response m.ai
  split
  · by_cases hc : (x.check m.ai).2.2 = 0
    · rw [if_pos hc]
      exact h.check m.ai
    · rw [if_neg hc]
      simp only []
      rw [check_same hc]
      exact ⟨s, h.stray m.ai, h⟩
  · exact ⟨s, rfl, h⟩

theorem Gv.removeP {x : Sr} {s : Tl} (h : Gv x s) (t : Int) : ∃ s', Tl.all (x.removeP t).2.1 s = some s' ∧ Gv (x.removeP t).1 s' := by
  unfold Sr.removeP
  split
  · exact ⟨s, rfl, h⟩
  · exact h.remove t (h.ok.remove' t)

theorem ask_all (x : Sr) (t : Int) (s : Tl) : Tl.all (x.ask t).2 s = some ⟨s.f, upd s.g t true⟩ := by
  show Tl.all [.said 4 0 t, .of 3 t] s = _
  rw [all_said, all_start]
  rfl
theorem upd_upd {α : Type} (f : Int → α) (t : Int) (a b : α) : upd (upd f t a) t b = upd f t b := by
  funext u
  unfold upd
  split <;> rfl

theorem Gv.timeout {x : Sr} {s : Tl} (h : Gv x s) (t : Int) : ∃ s', Tl.all (x.timeout t).2 ⟨s.f, upd s.g t false⟩ = some s' ∧ Gv (x.timeout t).1 s' := by
  unfold Sr.timeout
  cases hl : mlook x.checks t with
  | none =>
    refine ⟨_, rfl, h.ok, h.nd, h.on, fun u => ?_, h.sub⟩
    show upd s.g t false u = _
    unfold upd
    split
    · rename_i e; rw [e, hl]; rfl
    · exact h.run u
  | some c =>
    have hh := h.sub t (by rw [hl]; rfl)
    simp only []
    by_cases hA : c.ans = 0 ∧ c.asked = 1
    · rw [if_pos hA]
      obtain ⟨s', e, hg⟩ := h.ask hh (by rw [hl]; simp [hA.2])
      rw [ask_all] at e ⊢
      simp only [upd_upd]
      exact ⟨s', e, hg⟩
    · rw [if_neg hA]
      have okp : ∀ p ∈ mdel x.checks t, p.2.tei = p.1 ∧ 64 ≤ p.1 ∧ p.1 ≤ 126 ∧ 1 ≤ p.2.asked ∧ p.2.asked ≤ 2 ∧ 0 ≤ p.2.ans ∧ p.2.ans ≤ 1 := fun p hp => h.ok.all p ((mdel_sublist _).subset hp)
      have hrun : ∀ u, upd s.g t false u = (mlook (mdel x.checks t) u).isSome := fun u => by
        rw [isSome_del h.nd]
        unfold upd
        split
        · rfl
        · exact h.run u
      have hsub : ∀ u, (mlook (mdel x.checks t) u).isSome = true → u ≠ t ∧ x.pool.has u = true := fun u hu => by
        rw [isSome_del h.nd] at hu
        unfold upd at hu
        split at hu
        · cases hu
        · rename_i e; exact ⟨e, h.sub u hu⟩
      by_cases hB : 0 < c.ans
      · rw [if_pos hB]
        exact ⟨_, rfl, ⟨h.ok.on, h.ok.last, okp⟩, mdel_nodup h.nd, h.on, hrun, fun u hu => (hsub u hu).2⟩
      · rw [if_neg hB]
        have hf := free_ok x.pool t h.ok.on
        refine ⟨⟨upd s.f t false, upd s.g t false⟩, ?_, ⟨hf.1, by simp only []; rw [hf.2]; exact h.ok.last, okp⟩, mdel_nodup h.nd, fun u => ?_, hrun, fun u hu => ?_⟩
        · show (Tl.step _ _).bind _ = _
          rw [step_freed _ t (by simp only []; rw [h.on]; exact hh)]
          rfl
        · show upd s.f t false u = (x.pool.free t).1.has u
          rw [has_free, ← h.on]
          unfold upd
          by_cases e : u = t
          · simp [e]
          · simp [e]
        · simp only [] at hu ⊢
          rw [has_free, (hsub u hu).2]
          simp [(hsub u hu).1]
end Go.Proofs.Ytbnbknabedgpcaa
