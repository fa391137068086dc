/- The mux and the document's: plain law. -/
import Derived.Test.YtkcclijckpbobaaMux
namespace Go.Proofs.Ytkcclijckpbobaa
open Go.RowKit

theorem look_iffL {α β : Type} [DecidableEq α] : ∀ (l : List (α × β)) (t : α), (mlook l t).isSome = true ↔ t ∈ l.map (·.1)
  | [], t => by simp [mlook]
  | p :: l, t => by
    unfold mlook
    by_cases h : p.1 = t
    · rw [if_pos h]; simp [h]
    · rw [if_neg h, look_iffL l t]
      have : ¬ t = p.1 := fun e => h e.symm
      simp [this]
theorem look_mem {α β : Type} [DecidableEq α] : ∀ {l : List (α × β)} {k : α} {v : β}, mlook l k = some v → (k, v) ∈ l
  | p :: l, k, v, h => by
    unfold mlook at h
    split at h
    · rename_i e
      simp at h
      subst e h
      simp
    · simp [look_mem h]
theorem mem_look {α β : Type} [DecidableEq α] {l : List (α × β)} {k : α} {v : β} (hn : (l.map (·.1)).Nodup) (h : (k, v) ∈ l) : mlook l k = some v := by
  obtain ⟨j, hj⟩ := List.getElem?_of_mem h
  exact mlook_at hn hj
theorem mdel_flt {α β : Type} [DecidableEq α] {k : α} : ∀ {l : List (α × β)}, (l.map (·.1)).Nodup → mdel l k = l.filter fun p => decide (p.1 ≠ k)
  | [], _ => rfl
  | p :: l, h => by
    simp only [List.map_cons, List.nodup_cons] at h
    unfold mdel
    by_cases hp : p.1 = k
    · rw [if_pos hp, List.filter_cons_of_neg (by simp [hp])]
      rw [eq_comm, List.filter_eq_self]
      intro q hq
      simp only [decide_eq_true_eq]
      rintro rfl
      exact h.1 (List.mem_map.2 ⟨q, hq, hp.symm⟩)
    · rw [if_neg hp, List.filter_cons_of_pos (by simp [hp]), mdel_flt h.2]
theorem mput_newL {α β : Type} [DecidableEq α] {k : α} {v : β} : ∀ {l : List (α × β)}, (mlook l k).isSome = false → mput l k v = l ++ [(k, v)]
  | [], _ => rfl
  | p :: l, h => by
    unfold mlook at h
    unfold mput
    by_cases hp : p.1 = k
    · rw [if_pos hp] at h; cases h
    · rw [if_neg hp] at h ⊢
      rw [mput_newL h]
      rfl

/-- the program's and the document's hold the same -/
structure Rel (x : Mx) (L : List En) : Prop where
  perm : L.Perm x.l
  str : L.Pairwise fun p q => aheadL p.1 q.1
theorem Rel.nil (n : Int) : Rel ⟨n, []⟩ [] := ⟨.refl _, by simp⟩
theorem Rel.nd {x : Mx} {L : List En} (h : Rel x L) : (L.map (·.1)).Nodup := by
  rw [List.Nodup, List.pairwise_map]
  refine h.str.imp fun hpq e => ?_
  have e2 := hpq
  rw [e] at e2
  exact aheadL_irr _ e2
theorem Rel.ndx {x : Mx} {L : List En} (h : Rel x L) : (x.l.map (·.1)).Nodup := (h.perm.map _).nodup_iff.1 h.nd

def badL (k : Lk) : Prop := k.1 < 0 ∨ 63 < k.1 ∨ k.2 < 0 ∨ 126 < k.2
instance (k : Lk) : Decidable (badL k) := by unfold badL; exact inferInstance
def rjoin (most : Int) (L : List En) (k : Lk) (id : Int) : List En × Int :=
  if badL k then (L, 2)
  else if (mlook L k).isSome = true then (L, 13)
  else if (L.length : Int) = most then (L, 10)
  else (insE k id L, 0)
theorem Rel.isSome {x : Mx} {L : List En} (h : Rel x L) (k : Lk) : (mlook L k).isSome = (mlook x.l k).isSome := by
  rw [Bool.eq_iff_iff, look_iffL, look_iffL]
  exact (h.perm.map _).mem_iff
theorem Rel.join {x : Mx} {L : List En} (h : Rel x L) (ok : x.Ok) (k : Lk) (id : Int) : (rjoin x.most L k id).2 = (x.join k id).2 ∧ Rel (x.join k id).1 (rjoin x.most L k id).1 ∧ (x.join k id).1.Ok ∧ (x.join k id).1.most = x.most := by
  unfold rjoin Mx.join
  show (if badL k then _ else _ : List En × Int).2 = (if badL k then _ else _ : Mx × Int).2 ∧ _
  change _ ∧ Rel (if badL k then _ else _ : Mx × Int).1 _ ∧ Mx.Ok (if badL k then _ else _ : Mx × Int).1 ∧ Mx.most (if badL k then _ else _ : Mx × Int).1 = _
  by_cases h1 : badL k
  · simp only [if_pos h1]; refine ⟨?_, h, ok, ?_⟩ <;> first | rfl | trivial
  simp only [if_neg h1, h.isSome]
  by_cases h2 : (mlook x.l k).isSome = true
  · simp only [if_pos h2]; refine ⟨?_, h, ok, ?_⟩ <;> first | rfl | trivial
  simp only [if_neg h2]
  have hl := h.perm.length_eq
  have hl2 := ok.len
  by_cases h3 : (L.length : Int) = x.most
  · rw [if_pos h3, if_pos (by omega)]; refine ⟨?_, h, ok, ?_⟩ <;> first | rfl | trivial
  rw [if_neg h3, if_neg (by omega)]
  have h2' : (mlook x.l k).isSome = false := by simpa using h2
  rw [mput_newL h2']
  have hnk : ∀ p ∈ L, p.1 ≠ k := fun p hp e => h2 ((look_iffL _ _).2 ((h.perm.map _).mem_iff.1 (List.mem_map.2 ⟨p, hp, e⟩)))
  refine ⟨rfl, ⟨(insE_perm k id L).trans ((h.perm.cons _).trans (List.perm_append_comm (l₁ := [(k, id)]))), insE_strict k id h.str hnk⟩, ⟨?_, ?_, ?_, ok.m1, ok.m2⟩, rfl⟩
  · rw [List.map_append, List.nodup_append]
    refine ⟨ok.nd, by simp, fun a ha b hb e => ?_⟩
    simp at hb
    subst e hb
    exact h2 ((look_iffL _ _).2 ha)
  · intro p hp
    rcases List.mem_append.1 hp with hp | hp
    · exact ok.rng p hp
    · simp at hp
      subst hp
      unfold badL at h1
      simp only []
      omega
  · simp only [List.length_append, List.length_cons, List.length_nil]
    omega

def rleave (L : List En) (k : Lk) : List En × Bool := (L.filter fun p => decide (p.1 ≠ k), decide ((L.filter fun p => decide (p.1 ≠ k)).length < L.length))
theorem Ok.sub {x : Mx} (ok : x.Ok) {l : List En} (h : l.Sublist x.l) : Mx.Ok ⟨x.most, l⟩ :=
  ⟨(h.map _).nodup ok.nd, fun p hp => ok.rng p (h.subset hp), by have := h.length_le; have := ok.len; simp only []; omega, ok.m1, ok.m2⟩
theorem Rel.leave {x : Mx} {L : List En} (h : Rel x L) (ok : x.Ok) (k : Lk) : (rleave L k).2 = (x.leave k).2 ∧ Rel (x.leave k).1 (rleave L k).1 ∧ (x.leave k).1.Ok ∧ (x.leave k).1.most = x.most := by
  unfold rleave Mx.leave
  simp only []
  rw [mdel_flt ok.nd]
  refine ⟨?_, ⟨h.perm.filter _, List.Pairwise.sublist List.filter_sublist h.str⟩, Ok.sub ok List.filter_sublist, by first | rfl | trivial⟩
  rw [Bool.eq_iff_iff, decide_eq_true_eq, look_iffL, List.length_filter_lt_length_iff_exists]
  constructor
  · rintro ⟨p, hp, he⟩
    simp at he
    exact (h.perm.map _).mem_iff.1 (List.mem_map.2 ⟨p, hp, he⟩)
  · intro hk
    obtain ⟨p, hp, e⟩ := List.mem_map.1 ((h.perm.map (·.1)).mem_iff.2 hk)
    exact ⟨p, hp, by simp [e]⟩

/-- who has them -/
def hasId (id : Int) (l : List En) : List En := l.filter fun p => decide (p.2 = id)
def Mx.drop (x : Mx) (id : Int) : Mx × Nat := (⟨x.most, x.l.filter fun p => decide (p.2 ≠ id)⟩, (hasId id x.l).length)
def rdrop (L : List En) (id : Int) : List En × Nat := (L.filter fun p => decide (p.2 ≠ id), L.length - (L.filter fun p => decide (p.2 ≠ id)).length)
theorem Rel.drop {x : Mx} {L : List En} (h : Rel x L) (ok : x.Ok) (id : Int) : (rdrop L id).2 = (x.drop id).2 ∧ Rel (x.drop id).1 (rdrop L id).1 ∧ (x.drop id).1.Ok ∧ (x.drop id).1.most = x.most := by
  unfold rdrop Mx.drop
  refine ⟨?_, ⟨h.perm.filter _, List.Pairwise.sublist List.filter_sublist h.str⟩, Ok.sub ok List.filter_sublist, rfl⟩
  simp only []
  have e1 := h.perm.length_eq
  have e2 := (h.perm.filter fun p => decide (p.2 ≠ id)).length_eq
  have e3 := List.length_eq_countP_add_countP (fun p : En => decide (p.2 = id)) (l := x.l)
  rw [List.countP_eq_length_filter, List.countP_eq_length_filter] at e3
  have e4 : (x.l.filter fun p => decide ¬(decide (p.2 = id) = true)) = x.l.filter fun p => decide (p.2 ≠ id) := List.filter_congr fun p _ => by simp
  rw [e4] at e3
  unfold hasId
  omega

/-- whoever has it, in order -/
def Mx.links (x : Mx) (id : Int) (ks : List Lk) : Prop := ks.Pairwise aheadL ∧ ∀ k, k ∈ ks ↔ (k, id) ∈ x.l
def rlinks (L : List En) (id : Int) : List En := hasId id L
theorem Rel.links {x : Mx} {L : List En} (h : Rel x L) (id : Int) {ks : List Lk} (hk : x.links id ks) : ks = (rlinks L id).map (·.1) := by
  refine strict_ext aheadL_irr aheadL_asy hk.1 ?_ fun k => ?_
  · exact List.pairwise_map.2 (List.Pairwise.sublist List.filter_sublist h.str)
  · rw [hk.2]
    unfold rlinks hasId
    constructor
    · intro hm
      exact List.mem_map.2 ⟨(k, id), List.mem_filter.2 ⟨h.perm.mem_iff.2 hm, by simp⟩, rfl⟩
    · intro hm
      obtain ⟨⟨k', i'⟩, hp, rfl⟩ := List.mem_map.1 hm
      have := List.mem_filter.1 hp
      have e : i' = id := by simpa using this.2
      subst e
      exact h.perm.mem_iff.1 this.1

def Mx.route (x : Mx) (k : Lk) : List Int := if k.2 ≠ 127 then (match mlook x.l k with | some id => [id] | none => []) else setI ((x.l.filter fun p => decide (p.1.1 = k.1)).map (·.2))
def fitsR (k : Lk) (p : En) : Bool := decide (p.1.1 = k.1) && (decide (k.2 = 127) || decide (p.1.2 = k.2))
def rroute (L : List En) (k : Lk) : List Int := setI ((L.filter (fitsR k)).map (·.2))
theorem setI_ext {l m : List Int} (h : ∀ a, a ∈ l ↔ a ∈ m) : setI l = setI m :=
  strict_ext (fun a => by omega) (fun a b h => by omega) (setI_strict l) (setI_strict m) fun a => by rw [setI_mem, setI_mem, h]
theorem Rel.route {x : Mx} {L : List En} (h : Rel x L) (k : Lk) : rroute L k = x.route k := by
  unfold rroute Mx.route
  obtain ⟨s, t⟩ := k
  simp only []
  by_cases ht : t = 127
  · rw [if_neg (by simpa using ht)]
    refine setI_ext fun a => ?_
    have e : fitsR (s, t) = fun p => decide (p.1.1 = s) := by funext p; simp [fitsR, ht]
    rw [e]
    exact ((h.perm.filter _).map _).mem_iff
  · rw [if_pos ht]
    have hm : ∀ a, a ∈ (L.filter (fitsR (s, t))).map (·.2) ↔ mlook x.l (s, t) = some a := fun a => by
      constructor
      · intro ha
        obtain ⟨⟨⟨s', t'⟩, i⟩, hp, rfl⟩ := List.mem_map.1 ha
        have := List.mem_filter.1 hp
        have h2 := this.2
        simp [fitsR, ht] at h2
        obtain ⟨rfl, rfl⟩ := h2
        exact mem_look h.ndx (h.perm.mem_iff.1 this.1)
      · intro ha
        exact List.mem_map.2 ⟨((s, t), a), List.mem_filter.2 ⟨h.perm.mem_iff.2 (look_mem ha), by simp [fitsR]⟩, rfl⟩
    cases hl : mlook x.l (s, t) with
    | none =>
      refine strict_ext (r := (· < ·)) (fun a => by omega) (fun a b h => by omega) (setI_strict _) (by simp) fun a => ?_
      rw [setI_mem, hm, hl]
      simp
    | some id =>
      refine strict_ext (r := (· < ·)) (fun a => by omega) (fun a b h => by omega) (setI_strict _) (by simp) fun a => ?_
      rw [setI_mem, hm, hl]
      simp
      exact eq_comm
end Go.Proofs.Ytkcclijckpbobaa
