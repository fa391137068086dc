/- Plain lists: strictly sorted ones; slices.Compact's. -/
import Derived.Lib.SlicesCompact
import Derived.Test.YtkcclijckpbobaaSep
namespace Go.Proofs.Ytkcclijckpbobaa
open Go.RowKit

/-- two lists in strict order that hold the same are the same -/
theorem strict_ext {α : Type} {r : α → α → Prop} (irr : ∀ a, ¬ r a a) (asy : ∀ a b, r a b → ¬ r b a) : ∀ {l m : List α}, l.Pairwise r → m.Pairwise r → (∀ a, a ∈ l ↔ a ∈ m) → l = m
  | [], [], _, _, _ => rfl
  | [], b :: m, _, _, h => by have := (h b).2 (by simp); cases this
  | a :: l, [], _, _, h => by have := (h a).1 (by simp); cases this
  | a :: l, b :: m, hl, hm, h => by
    simp only [List.pairwise_cons] at hl hm
    have e : a = b := by
      rcases List.mem_cons.1 ((h a).1 (by simp)) with e | h1
      · exact e
      · rcases List.mem_cons.1 ((h b).2 (by simp)) with e | h2
        · exact e.symm
        · exact absurd (hm.1 a h1) (asy _ _ (hl.1 b h2))
    subst e
    congr 1
    refine strict_ext irr asy hl.2 hm.2 fun c => ?_
    constructor
    · intro hc
      rcases List.mem_cons.1 ((h c).1 (by simp [hc])) with e | h1
      · subst e; exact absurd (hl.1 c hc) (irr c)
      · exact h1
    · intro hc
      rcases List.mem_cons.1 ((h c).2 (by simp [hc])) with e | h1
      · subst e; exact absurd (hm.1 c hc) (irr c)
      · exact h1

theorem bang_at {zs : List Int} {j : Nat} (h : j < zs.length) : zs.toArray[j]! = zs[j] := by
  rw [getElem!_pos zs.toArray j (by simpa using h)]
  simp
theorem compact_strict {zs : List Int} (h : zs.Pairwise (· ≤ ·)) : (Lib.compact zs).Pairwise (· < ·) := by
  unfold Lib.compact Lib.compactUpTo
  rw [List.pairwise_map]
  have h0 : ((List.range zs.length).filter (Lib.keeps zs.toArray)).Pairwise (· < ·) := List.Pairwise.sublist List.filter_sublist List.pairwise_lt_range
  have h1 : ((List.range zs.length).filter (Lib.keeps zs.toArray)).Pairwise fun i j => i < j ∧ i < zs.length ∧ j < zs.length ∧ Lib.keeps zs.toArray j = true := by
    refine h0.imp_of_mem fun {i j} hi hj hij => ?_
    have a := List.mem_filter.1 hi
    have b := List.mem_filter.1 hj
    exact ⟨hij, List.mem_range.1 a.1, List.mem_range.1 b.1, b.2⟩
  refine h1.imp fun {i j} hij => ?_
  obtain ⟨a, b, c, d⟩ := hij
  rw [bang_at b, bang_at c]
  have hp := List.pairwise_iff_getElem.1 h
  have hne : zs[j] ≠ zs[j - 1] := by
    unfold Lib.keeps at d
    have d2 := of_decide_eq_true d
    rcases d2 with d2 | d2
    · omega
    · rw [bang_at c, bang_at (show j - 1 < zs.length by omega)] at d2
      exact d2
  have h2 := hp (j - 1) j (by omega) c (by omega)
  by_cases e : i = j - 1
  · subst e; omega
  · have h3 := hp i (j - 1) b (by omega) (by omega)
    omega
theorem compact_mem (zs : List Int) (a : Int) : a ∈ Lib.compact zs ↔ a ∈ zs := by
  unfold Lib.compact Lib.compactUpTo
  constructor
  · intro h
    obtain ⟨j, hj, rfl⟩ := List.mem_map.1 h
    have := List.mem_range.1 (List.mem_filter.1 hj).1
    rw [bang_at this]
    exact List.getElem_mem _
  · intro h
    obtain ⟨j, hj, rfl⟩ := List.getElem_of_mem h
    have key : ∀ (n : Nat) (hn : n < zs.length), zs[n] ∈ ((List.range zs.length).filter (Lib.keeps zs.toArray)).map (zs.toArray[·]!) := by
      intro n
      induction n with
      | zero =>
        intro hn
        exact List.mem_map.2 ⟨0, List.mem_filter.2 ⟨List.mem_range.2 hn, by simp [Lib.keeps]⟩, bang_at hn⟩
      | succ n ih =>
        intro hn
        by_cases e : zs[n + 1] = zs[n]
        · rw [e]; exact ih (by omega)
        · refine List.mem_map.2 ⟨n + 1, List.mem_filter.2 ⟨List.mem_range.2 hn, ?_⟩, bang_at hn⟩
          unfold Lib.keeps
          rw [bang_at hn, Nat.add_sub_cancel, bang_at (show n < zs.length by omega)]
          simp [e]
    exact key j hj

/-- a number into a row in order -/
def insI (x : Int) : List Int → List Int
  | [] => [x]
  | a :: l => if a = x then a :: l else if x < a then x :: a :: l else a :: insI x l
theorem insI_mem (x : Int) : ∀ (l : List Int) (a : Int), a ∈ insI x l ↔ a = x ∨ a ∈ l
  | [], a => by simp [insI]
  | b :: l, a => by
    unfold insI
    split
    · rename_i e; subst e; simp
    · split
      · simp
      · simp only [List.mem_cons, insI_mem x l a]
        constructor
        · rintro (h | h | h)
          · exact .inr (.inl h)
          · exact .inl h
          · exact .inr (.inr h)
        · rintro (h | h | h)
          · exact .inr (.inl h)
          · exact .inl h
          · exact .inr (.inr h)
theorem insI_strict (x : Int) : ∀ {l : List Int}, l.Pairwise (· < ·) → (insI x l).Pairwise (· < ·)
  | [], _ => by simp [insI]
  | b :: l, h => by
    unfold insI
    have h' := h
    simp only [List.pairwise_cons] at h
    split
    · exact h'
    · split
      · rename_i h1 h2
        rw [List.pairwise_cons]
        refine ⟨fun c hc => ?_, h'⟩
        rcases List.mem_cons.1 hc with e | hc
        · omega
        · have := h.1 c hc; omega
      · rename_i h1 h2
        rw [List.pairwise_cons]
        refine ⟨fun c hc => ?_, insI_strict x h.2⟩
        rcases (insI_mem x l c).1 hc with e | hc
        · omega
        · exact h.1 c hc
/-- a set of numbers, in order -/
def setI (l : List Int) : List Int := l.foldl (fun o x => insI x o) []
theorem foldl_ins (l : List Int) : ∀ o : List Int, o.Pairwise (· < ·) → (l.foldl (fun o x => insI x o) o).Pairwise (· < ·) ∧ ∀ a, a ∈ l.foldl (fun o x => insI x o) o ↔ a ∈ o ∨ a ∈ l := by
  induction l with
  | nil => intro o ho; exact ⟨ho, fun a => by simp⟩
  | cons x l ih =>
    intro o ho
    obtain ⟨h1, h2⟩ := ih (insI x o) (insI_strict x ho)
    refine ⟨h1, fun a => ?_⟩
    rw [List.foldl_cons, h2, insI_mem, List.mem_cons]
    constructor
    · rintro ((h | h) | h)
      · exact .inr (.inl h)
      · exact .inl h
      · exact .inr (.inr h)
    · rintro (h | h | h)
      · exact .inl (.inr h)
      · exact .inl (.inl h)
      · exact .inr h
theorem setI_strict (l : List Int) : (setI l).Pairwise (· < ·) := (foldl_ins l [] (by simp)).1
theorem setI_mem (l : List Int) (a : Int) : a ∈ setI l ↔ a ∈ l := by
  rw [setI, (foldl_ins l [] (by simp)).2]
  simp
theorem setI_snoc (l : List Int) (x : Int) : setI (l ++ [x]) = insI x (setI l) := by
  unfold setI
  rw [List.foldl_append]
  rfl
theorem compact_sort {l : List Int} {zs : List Int} (h1 : zs.Pairwise (· ≤ ·)) (h2 : ∀ a, a ∈ zs ↔ a ∈ l) : Lib.compact zs = setI l :=
  strict_ext (fun a => by omega) (fun a b h => by omega) (compact_strict h1) (setI_strict l) fun a => by rw [compact_mem, setI_mem, h2]

/-- links -/
abbrev Lk := Int × Int
def aheadL (x y : Lk) : Prop := x.1 < y.1 ∨ (x.1 = y.1 ∧ x.2 < y.2)
instance (x y : Lk) : Decidable (aheadL x y) := by unfold aheadL; exact inferInstance
theorem aheadL_irr (a : Lk) : ¬ aheadL a a := by unfold aheadL; omega
theorem aheadL_asy (a b : Lk) : aheadL a b → ¬ aheadL b a := by unfold aheadL; omega
theorem aheadL_tri {a b : Lk} (h : ¬ aheadL a b) (hn : a ≠ b) : aheadL b a := by
  obtain ⟨a1, a2⟩ := a
  obtain ⟨b1, b2⟩ := b
  simp only [ne_eq, Prod.mk.injEq] at hn
  unfold aheadL at *
  simp only [] at *
  omega
theorem aheadL_trans {a b c : Lk} (h1 : aheadL a b) (h2 : aheadL b c) : aheadL a c := by unfold aheadL at *; omega

/-- an entry into a row in order -/
abbrev En := Lk × Int
def insE (k : Lk) (id : Int) : List En → List En
  | [] => [(k, id)]
  | p :: l => if aheadL k p.1 then (k, id) :: p :: l else p :: insE k id l
theorem insE_perm (k : Lk) (id : Int) : ∀ l : List En, (insE k id l).Perm ((k, id) :: l)
  | [] => .refl _
  | p :: l => by
    unfold insE
    split
    · exact .refl _
    · exact ((insE_perm k id l).cons p).trans (List.Perm.swap _ _ _)
theorem insE_strict (k : Lk) (id : Int) : ∀ {l : List En}, l.Pairwise (fun p q => aheadL p.1 q.1) → (∀ p ∈ l, p.1 ≠ k) → (insE k id l).Pairwise fun p q => aheadL p.1 q.1
  | [], _, _ => by simp [insE]
  | p :: l, h, hn => by
    unfold insE
    have h' := h
    simp only [List.pairwise_cons] at h
    split
    · rename_i ha
      rw [List.pairwise_cons]
      refine ⟨fun c hc => ?_, h'⟩
      rcases List.mem_cons.1 hc with e | hc
      · subst e; exact ha
      · exact aheadL_trans ha (h.1 c hc)
    · rename_i ha
      rw [List.pairwise_cons]
      refine ⟨fun c hc => ?_, insE_strict k id h.2 fun q hq => hn q (by simp [hq])⟩
      rcases List.mem_cons.1 ((insE_perm k id l).mem_iff.1 hc) with e | hc
      · subst e; exact aheadL_tri ha (hn p (by simp)).symm
      · exact h.1 c hc
end Go.Proofs.Ytkcclijckpbobaa
