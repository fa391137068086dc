/- slices.SortFunc, in the words of claims on the heap. -/
import Derived.Test.YtkcclijckpbobaaList
import Derived.Shelf.SlSortCmp.NoneTotal
namespace Go.Proofs.Ytkcclijckpbobaa
open Go.RowKit Go.Sort

section
variable {α : Type} [Inhabited α] {enc : α → List Value} {k : Nat} {w0 w : World} {R : HP} {E : TypeId} {l : List α} {g off cap n : Nat}

theorem flatK_eq (hk : ∀ x, (enc x).length = k) (h0 : 0 < k) (l : List α) : flatK enc k l.toArray = (l.flatMap enc).toArray := by
  have hlen := encs_len hk l
  apply Array.ext
  · simp [flatK, hlen]
  · intro t h1 h2
    have ht : t < l.length * k := by simpa using h1
    have hq : t / k < l.length := Nat.div_lt_of_lt_mul (by rw [Nat.mul_comm]; exact ht)
    have hr : t % k < k := Nat.mod_lt _ h0
    have he := encs_at hk l (t / k) l[t / k] (t % k) (List.getElem?_eq_getElem hq) hr
    rw [Nat.div_add_mod'] at he
    have h3 : (l.flatMap enc)[t]? = some (l.flatMap enc)[t] := List.getElem?_eq_getElem (by omega)
    rw [h3, List.getElem?_eq_getElem (by rw [hk]; exact hr)] at he
    simp only [flatK, Array.getElem_map, Array.getElem_range, List.getElem_toArray]
    have hg : l.toArray[t / k]! = l[t / k] := by rw [getElem!_pos l.toArray _ (by simpa using hq)]; simp
    rw [Option.some.inj he, hg, getElem!_pos (enc l[t / k]) _ (by rw [hk]; exact hr)]

theorem St.l_holds (h : St w0 w (LAt E k enc (.slice (some ⟨g, off, none⟩) n cap) l * R)) (hk : ∀ x, (enc x).length = k) (h0 : 0 < k) (hl : l ≠ []) : n = l.length ∧ HoldsK enc k w g off l.toArray ∧ g < w.heap.size := by
  rcases h.row with ⟨a0, hv, hn, _⟩ | ⟨g', off', cap', cur, hv, h1, h2, h3, h4, hs⟩
  · exact absurd (List.eq_nil_of_length_eq_zero hn) hl
  · simp only [Value.slice.injEq, Option.some.injEq, Addr.mk.injEq] at hv
    obtain ⟨⟨rfl, rfl, _⟩, rfl, rfl⟩ := hv
    refine ⟨rfl, ?_, hs.lt⟩
    unfold HoldsK
    rw [flatK_eq hk h0]
    intro j hj
    have hj' : j < (l.flatMap enc).length := by simpa using hj
    rw [encs_len hk] at hj'
    refine ⟨?_, hs.free _⟩
    rw [hs.cell, h4 j hj', getElem!_pos (l.flatMap enc).toArray j hj]
    simp only [id, List.getElem_toArray]
    exact List.getElem?_eq_getElem (by rw [encs_len hk]; exact hj')

/-- the row behind a sort -/
theorem St.l_sort (h : St w0 w (LAt E k enc (.slice (some ⟨g, off, none⟩) n cap) l * R)) (hk : ∀ x, (enc x).length = k) (h0 : 0 < k) (hl : l ≠ []) {l' : List α} (hl' : l'.length = l.length) (m : Nat) (os : Array Obj) :
    St w0 (sortWorldK enc k w g off m l'.toArray os) (LAt E k enc (.slice (some ⟨g, off, none⟩) n cap) l' * R) := by
  rcases h.row with ⟨a0, hv, hn, _⟩ | ⟨g', off', cap', cur, hv, h1, h2, h3, h4, hs⟩
  · exact absurd (List.eq_nil_of_length_eq_zero hn) hl
  · simp only [Value.slice.injEq, Option.some.injEq, Addr.mk.injEq] at hv
    obtain ⟨⟨rfl, rfl, _⟩, rfl, rfl⟩ := hv
    have hb := hs.heap
    have hlt := hs.lt
    have hheap : (sortWorldK enc k w g off m l'.toArray os).heap = w.heap.modify g (onCells (putCells id off (flatK enc k l'.toArray))) ++ os := rfl
    have hs2 : St w0 (sortWorldK enc k w g off m l'.toArray os) (blk g (.cells (putCells id off (flatK enc k l'.toArray) cur) E (0, 0)) * R) := by
      refine hs.swap rfl rfl rfl ?_ ?_
      · rw [hheap, Array.getElem?_append_left (by simpa using hlt), Array.getElem?_modify, if_pos rfl, hb]
        rfl
      · intro j hj hjl
        rw [hheap, Array.getElem?_append_left (by simpa using hjl), Array.getElem?_modify, if_neg (Ne.symm hj)]
    have := St.row_mk (xs := l'.flatMap enc) (n := l'.length) (sz := k) (off := off) (cap := cap) hs2 (encs_len hk l') (by omega) h2 (by simpa [putCells] using h3) (fun j hj => ?_)
    · unfold LAt
      rw [← hl']
      exact this
    · have hc : off + j < cur.size := by
        have : l'.length * k ≤ cap * k := Nat.mul_le_mul_right _ (by omega)
        omega
      have hj' : j < (l'.flatMap enc).length := by rw [encs_len hk]; exact hj
      rw [flatK_eq hk h0]
      simp only [putCells, Array.getElem?_mapIdx, Array.getElem?_eq_getElem hc, Option.map_some, List.size_toArray]
      rw [if_pos ⟨by omega, by omega⟩, Nat.add_sub_cancel_left, getElem!_pos (l'.flatMap enc).toArray j (by simpa using hj'), List.getElem?_eq_getElem hj']
      rfl
end
end Go.Proofs.Ytkcclijckpbobaa
