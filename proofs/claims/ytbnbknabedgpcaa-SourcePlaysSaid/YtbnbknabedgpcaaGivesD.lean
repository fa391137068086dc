/- SourceGives: what is counted: plain law. -/
import Derived.Test.YtbnbknabedgpcaaGivesC
namespace Go.Proofs.Ytbnbknabedgpcaa
open Go.RowKit

theorem sub_len {α : Type} [DecidableEq α] : ∀ {l m : List α}, l.Nodup → (∀ a ∈ l, a ∈ m) → l.length ≤ m.length
  | [], _, _, _ => Nat.zero_le _
  | a :: l, m, hn, h => by
    have ha := h a (by simp)
    simp only [List.nodup_cons] at hn
    have h2 := sub_len (m := m.erase a) hn.2 (fun b hb => (List.mem_erase_of_ne (by rintro rfl; exact hn.1 hb)).2 (h b (by simp [hb])))
    have h3 := List.length_erase_of_mem ha
    have h4 := List.length_pos_of_mem ha
    simp only [List.length_cons]
    omega
theorem same_len {α : Type} [DecidableEq α] {l m : List α} (h1 : l.Nodup) (h2 : m.Nodup) (h : ∀ a, a ∈ l ↔ a ∈ m) : l.length = m.length :=
  Nat.le_antisymm (sub_len h1 fun a ha => (h a).1 ha) (sub_len h2 fun a ha => (h a).2 ha)
theorem look_iff {α β : Type} [DecidableEq α] : ∀ (l : List (α × β)) (t : α), (mlook l t).isSome = true ↔ t ∈ l.map (·.1)
  | [], t => by simp [mlook]
  | p :: l, t => by
    unfold mlook
    by_cases h : p.1 = t
    · rw [if_pos h]; simp [h]
    · rw [if_neg h, look_iff l t]
      have : ¬ t = p.1 := fun e => h e.symm
      simp [this]

def heldOf (on : BM) (l : List Int) : Nat := (l.filter (bOf on)).length
theorem held_step {on : BM} : ∀ {left : List Int} {x : Int}, left.Nodup → x ∈ left → heldOf on left = heldOf on (left.filter fun y => decide (y ≠ x)) + (if bOf on x = true then 1 else 0)
  | a :: l, x, hn, hx => by
    simp only [List.nodup_cons] at hn
    unfold heldOf
    by_cases h : a = x
    · subst h
      rw [List.filter_cons_of_neg (a := a) (p := fun y => decide (y ≠ a)) (by simp)]
      have e : l.filter (fun y => decide (y ≠ a)) = l := List.filter_eq_self.2 fun b hb => by
        have : b ≠ a := by rintro rfl; exact hn.1 hb
        simp [this]
      rw [e]
      by_cases hb : bOf on a = true
      · rw [List.filter_cons_of_pos hb, if_pos hb]; rfl
      · rw [List.filter_cons_of_neg hb, if_neg hb]; rfl
    · have hx2 : x ∈ l := by
        rcases List.mem_cons.1 hx with e | e
        · exact absurd e.symm h
        · exact e
      have ih := held_step (on := on) hn.2 hx2
      unfold heldOf at ih
      rw [List.filter_cons_of_pos (a := a) (p := fun y => decide (y ≠ x)) (by simp [h])]
      by_cases hb : bOf on a = true
      · rw [List.filter_cons_of_pos hb, List.filter_cons_of_pos hb, List.length_cons, List.length_cons, ih]; omega
      · rw [List.filter_cons_of_neg hb, List.filter_cons_of_neg hb, ih]
theorem upto_mem {s : Pl} {t : Int} (h : s.has t = true) : t ∈ (s.upto 63).map fun (i : Nat) => 64 + (i : Int) := by
  have hr := has_range h
  unfold Pl.has at h
  simp only [Bool.and_eq_true, decide_eq_true_eq] at h
  exact List.mem_map.2 ⟨t.toNat - 64, List.mem_filter.2 ⟨List.mem_range.2 (by omega), h.2⟩, by omega⟩
theorem held_all {x : Sr} {on runs : BM} (h : Gv x (Tl.of on runs)) (hn : (on.map (·.1)).Nodup) : heldOf on (on.map (·.1)) = (x.pool.upto 63).length := by
  have e : (x.pool.upto 63).length = ((x.pool.upto 63).map fun (i : Nat) => 64 + (i : Int)).length := by simp
  rw [e]
  unfold heldOf
  refine same_len (List.filter_sublist.nodup hn) ?_ fun t => ?_
  · refine List.pairwise_map.2 ?_
    have : (x.pool.upto 63).Nodup := List.filter_sublist.nodup List.nodup_range
    exact this.imp fun hne e => hne (by omega)
  · have ho : bOf on t = x.pool.has t := h.on t
    constructor
    · intro ht
      exact upto_mem (ho ▸ (List.mem_filter.1 ht).2)
    · intro ht
      obtain ⟨i, hi, rfl⟩ := List.mem_map.1 ht
      have hh : bOf on (64 + (i : Int)) = true := ho.trans (upto_has hi)
      refine List.mem_filter.2 ⟨(look_iff _ _).1 ?_, hh⟩
      unfold bOf at hh
      cases hl : mlook on (64 + (i : Int)) with
      | none => rw [hl] at hh; cases hh
      | some _ => rfl
theorem runs_len {x : Sr} {on runs : BM} (h : Gv x (Tl.of on runs)) (hn : (runs.map (·.1)).Nodup) (hp : ∀ p ∈ runs, p.2 = true) : runs.length = x.checks.length := by
  have e1 : runs.length = (runs.map (·.1)).length := by simp
  have e2 : x.checks.length = (x.checks.map (·.1)).length := by simp
  rw [e1, e2]
  refine same_len hn h.nd fun t => ?_
  rw [← look_iff, ← look_iff, ← h.run]
  show _ ↔ bOf runs t = true
  unfold bOf
  cases hl : mlook runs t with
  | none => simp
  | some b =>
    have := hp _ (mlook_mem hl)
    simp only [] at this
    subst this
    simp
theorem chk_of {x : Sr} {on runs : BM} (h : Gv x (Tl.of on runs)) {c : Chk} (hc : c ∈ x.chks) : bOf on c.tei = true ∧ bOf runs c.tei = true ∧ kInt.ok c.tei ∧ c.ans ≤ 1 ∧ 1 ≤ c.asked ∧ c.asked ≤ 2 := by
  unfold Sr.chks at hc
  obtain ⟨t, ht, rfl⟩ := List.mem_map.1 hc
  have ht2 := (List.mergeSort_perm _ _).mem_iff.1 ht
  have hs := (look_iff _ _).2 ht2
  cases hl : mlook x.checks t with
  | none => rw [hl] at hs; cases hs
  | some c =>
    have ha := h.ok.all _ (mlook_mem hl)
    simp only [] at ha
    simp only [Option.getD_some]
    obtain ⟨rfl, h1, h2, h3, h4, h5, h6⟩ := ha
    have ho : bOf on c.tei = x.pool.has c.tei := h.on c.tei
    have hr : bOf runs c.tei = (mlook x.checks c.tei).isSome := h.run c.tei
    exact ⟨ho.trans (h.sub _ hs), hr.trans hs, kok _ (by omega) (by omega), h6, h3, h4⟩
end Go.Proofs.Ytbnbknabedgpcaa
