/- The clock and the reference's clock are the same. -/
import Derived.Test.YtbnbknabedgpcaaClockRefB
namespace Go.Proofs.Ytbnbknabedgpcaa
open Go.RowKit Go.Sort

def SortedT (L : Tms) : Prop := L.Pairwise fun x y => aheadB y x = false
structure Same (l L : Tms) : Prop where
  perm : L.Perm l
  nd : (l.map (·.1)).Nodup
  sorted : SortedT L

theorem aheadB_iff (x y : Key × Int) : aheadB x y = true ↔ (x.2 < y.2 ∨ (x.2 = y.2 ∧ (x.1.1 < y.1.1 ∨ (x.1.1 = y.1.1 ∧ x.1.2 < y.1.2)))) := by
  unfold aheadB
  split
  · split <;> simp <;> omega
  · simp; omega

theorem Same.nil : Same [] [] := ⟨.refl _, by simp, .nil⟩
theorem Same.nd' {l L : Tms} (h : Same l L) : (L.map (·.1)).Nodup := ((h.perm.map _).nodup_iff).2 h.nd
theorem mlook_iff {l : Tms} (hn : (l.map (·.1)).Nodup) {k : Key} {v : Int} : mlook l k = some v ↔ (k, v) ∈ l := by
  refine ⟨mlook_mem', fun h => ?_⟩
  obtain ⟨i, hi, e⟩ := List.getElem_of_mem h
  exact mlook_at hn (j := i) (by rw [List.getElem?_eq_getElem hi, e])
theorem Same.look {l L : Tms} (h : Same l L) (k : Key) : mlook L k = mlook l k :=
  Option.ext fun v => by
    have := h.perm.mem_iff (a := (k, v))
    rw [mlook_iff h.nd', mlook_iff h.nd, this]
theorem filter_nd {l : Tms} (hn : (l.map (·.1)).Nodup) (f : Key × Int → Bool) : ((l.filter f).map (·.1)).Nodup := (List.filter_sublist.map _).nodup hn
theorem mdel_but {l : Tms} (hn : (l.map (·.1)).Nodup) (k : Key) : mdel l k = but l k := mdel_filter hn
theorem Same.but {l L : Tms} (h : Same l L) (k : Key) : Same (mdel l k) (but L k) := by
  refine ⟨?_, ?_, h.sorted.filter _⟩
  · rw [mdel_but h.nd]; exact h.perm.filter _
  · rw [mdel_but h.nd]; exact filter_nd h.nd _
theorem Same.was {l L : Tms} (h : Same l L) (k : Key) : decide ((Go.Proofs.Ytbnbknabedgpcaa.but L k).length < L.length) = (mlook l k).isSome := by
  rw [← h.look, ← mdel_but h.nd']
  cases hl : mlook L k with
  | none => rw [mdel_absent hl]; simp
  | some v => have := mdel_length hl; simp; omega
theorem Same.drop {l L : Tms} (h : Same l L) (o : Int) : Same (dropped l o) (dropped L o) := ⟨h.perm.filter _, filter_nd h.nd _, h.sorted.filter _⟩

theorem mput_perm {l : Tms} (hn : (l.map (·.1)).Nodup) (k : Key) (v : Int) : (mput l k v).Perm ((k, v) :: Go.Proofs.Ytbnbknabedgpcaa.but l k) := by
  unfold Go.Proofs.Ytbnbknabedgpcaa.but
  induction l with
  | nil => exact .refl _
  | cons p l ih =>
    simp only [List.map_cons, List.nodup_cons] at hn
    rw [mput_cons]
    by_cases hp : p.1 = k
    · rw [if_pos hp, List.filter_cons_of_neg (by simp [hp])]
      have : l.filter (fun p => decide (p.1 ≠ k)) = l := by
        rw [List.filter_eq_self]
        intro q hq
        simp only [decide_eq_true_eq]
        rintro rfl
        exact hn.1 (List.mem_map.2 ⟨q, hq, hp.symm⟩)
      rw [this]
    · rw [if_neg hp, List.filter_cons_of_pos (by simp [hp])]
      exact ((ih hn.2).cons p).trans (.swap _ _ _)
theorem rput_perm (L : Tms) (x : Key × Int) : (rput L x).Perm (x :: L) := by
  induction L with
  | nil => exact .refl _
  | cons y L ih =>
    unfold rput
    split
    · exact .refl _
    · exact (ih.cons y).trans (.swap _ _ _)
theorem rput_sorted {L : Tms} (h : SortedT L) (x : Key × Int) : SortedT (rput L x) := by
  induction L with
  | nil => exact List.pairwise_singleton _ _
  | cons y L ih =>
    have h1 := List.pairwise_cons.1 h
    unfold rput
    split
    · rename_i hb
      refine List.pairwise_cons.2 ⟨fun z hz => ?_, h⟩
      have a := (aheadB_iff x y).1 hb
      rw [Bool.eq_false_iff]
      intro hc
      have b := (aheadB_iff z x).1 hc
      simp only [List.mem_cons] at hz
      rcases hz with rfl | hz
      · omega
      · have c := h1.1 z hz
        rw [Bool.eq_false_iff] at c
        exact c ((aheadB_iff z y).2 (by omega))
    · rename_i hb
      refine List.pairwise_cons.2 ⟨fun z hz => ?_, ih h1.2⟩
      have hz' := (rput_perm L x).mem_iff.1 hz
      simp only [List.mem_cons] at hz'
      rcases hz' with rfl | hz'
      · simpa using hb
      · exact h1.1 z hz'
theorem Same.put {l L : Tms} (h : Same l L) (k : Key) (v : Int) : Same (mput l k v) (rput (Go.Proofs.Ytbnbknabedgpcaa.but L k) (k, v)) := by
  have hp := mput_perm h.nd k v
  refine ⟨(rput_perm _ _).trans (((h.perm.filter _).cons _).trans hp.symm), ?_, rput_sorted (h.sorted.filter _) _⟩
  rw [(hp.map _).nodup_iff, List.map_cons, List.nodup_cons]
  refine ⟨?_, filter_nd h.nd _⟩
  intro hm
  obtain ⟨q, hq, e⟩ := List.mem_map.1 hm
  have := (List.mem_filter.1 hq).2
  simp at this
  exact this e

theorem Same.next {l L : Tms} (h : Same l L) {f : Int} {b : Bool} (hN : NextIs l f b) : headT L = (f, b) := by
  rcases hN with ⟨rfl, rfl, rfl⟩ | ⟨rfl, ⟨p, hp, rfl⟩, hall⟩
  · rw [List.perm_nil.1 h.perm]; rfl
  · have hpL := h.perm.mem_iff.2 hp
    have hs := h.sorted
    cases L with
    | nil => cases hpL
    | cons q L =>
      have h1 := (List.pairwise_cons.1 hs).1
      have h2 := hall q (h.perm.mem_iff.1 (by simp))
      have h3 : q.2 ≤ p.2 := by
        simp only [List.mem_cons] at hpL
        rcases hpL with rfl | hpL
        · exact Int.le_refl _
        · have := h1 p hpL
          rw [Bool.eq_false_iff] at this
          have := mt (aheadB_iff p q).2 this
          omega
      unfold headT
      simp only [Prod.mk.injEq, and_true]
      omega

theorem Same.due {l L done rest : Tms} {now : Int} (h : Same l L) (e : L = done ++ rest) (h1 : ∀ p ∈ done, p.2 ≤ now) (h2 : ∀ p, rest.head? = some p → now < p.2) : dueK l now = done.map (·.1) ∧ Same (leftK l now) rest := by
  subst e
  have hs := List.pairwise_append.1 h.sorted
  have h3 : ∀ p ∈ rest, now < p.2 := by
    cases rest with
    | nil => simp
    | cons q rest =>
      have hq := h2 q rfl
      have h4 := (List.pairwise_cons.1 hs.2.1).1
      intro p hp
      simp only [List.mem_cons] at hp
      rcases hp with rfl | hp
      · exact hq
      · have := h4 p hp
        rw [Bool.eq_false_iff] at this
        have := mt (aheadB_iff p q).2 this
        omega
  have e1 : (done ++ rest).filter (fun p => decide (p.2 ≤ now)) = done := by
    rw [List.filter_append, List.filter_eq_self.2 (fun p hp => by simpa using h1 p hp), List.filter_eq_nil_iff.2 (fun p hp => by have := h3 p hp; simp; omega), List.append_nil]
  have e2 : (done ++ rest).filter (fun p => decide (now < p.2)) = rest := by
    rw [List.filter_append, List.filter_eq_nil_iff.2 (fun p hp => by have := h1 p hp; simp; omega), List.nil_append, List.filter_eq_self.2 (fun p hp => by simpa using h3 p hp)]
  constructor
  · have e3 : dueK l now = sortK l ((l.filter fun p => decide (p.2 ≤ now)).map (·.1)) := rfl
    rw [e3]
    refine sortK_eq ?_ ?_
    · have := (h.perm.filter (fun p => decide (p.2 ≤ now))).map (·.1)
      rw [e1] at this
      exact this
    · rw [List.pairwise_map]
      refine hs.1.imp_of_mem fun {a b} ha hb hab => ?_
      have ta := till_mem h.nd (h.perm.mem_iff.1 (List.mem_append_left rest ha))
      have tb := till_mem h.nd (h.perm.mem_iff.1 (List.mem_append_left rest hb))
      rw [Bool.eq_false_iff] at hab
      have := mt (aheadB_iff b a).2 hab
      unfold aheadK
      rw [ta, tb]
      exact this
  · refine ⟨?_, filter_nd h.nd _, hs.2.1⟩
    have := h.perm.filter (fun p => decide (now < p.2))
    rw [e2] at this
    exact this
end Go.Proofs.Ytbnbknabedgpcaa
