/- The mux's laws: what all of them ask first; scripts; equal. -/
import Derived.Test.YtkcclijckpbobaaMuxRC
import Derived.Test.YtkcclijckpbobaaLaw
namespace Go.Proofs.Ytkcclijckpbobaa
open Go.RowKit Go.Sort

section
variable {m r : Nat} {x x' : Mx} {mo k1 k2 id er n : Int} {L L' : List En} {b : Bool} {w0 w : World} {R : HP}
theorem x_join_to (h : St w0 w (XAt m x * R)) (hk : okL (k1, k2)) (hl : x.l.length ≤ 100000) (e : x.join (k1, k2) id = (x', er)) :
    Calls Try.prog 14 #[ptrX m, .agg #[.int .i64 k1, .int .i64 k2], .int .i64 id] w fun e w' => e = .returned (.int .i64 er) ∧ St w0 w' (XAt m x' * R) := by
  have := x_join m x (k1, k2) hk id hl w0 w R h
  rw [e] at this
  exact this
theorem x_leave_to (h : St w0 w (XAt m x * R)) (hk : okL (k1, k2)) (e : x.leave (k1, k2) = (x', b)) :
    Calls Try.prog 15 #[ptrX m, .agg #[.int .i64 k1, .int .i64 k2]] w fun e w' => e = .returned (.bool b) ∧ St w0 w' (XAt m x' * R) := by
  have := x_leave m x (k1, k2) hk w0 w R h
  rw [e] at this
  exact this
theorem x_drop_to (h : St w0 w (XAt m x * R)) (hl : x.l.length ≤ 100000) (e1 : (x.drop id).1 = x') (e2 : ((x.drop id).2 : Int) = n) :
    Calls Try.prog 16 #[ptrX m, .int .i64 id] w fun e w' => e = .returned (.int .i64 n) ∧ St w0 w' (XAt m x' * R) := by
  have := x_drop m x id w0 w R h hl
  rw [e1, e2] at this
  exact this
theorem mr_join_to (h : St w0 w (MRef r mo L * R)) (hL : L.length ≤ 100000) (e : rjoin mo L (k1, k2) id = (L', er)) :
    Calls Try.prog 21 #[ptrX r, .int .i64 k1, .int .i64 k2, .int .i64 id] w fun e w' => e = .returned (.int .i64 er) ∧ St w0 w' (MRef r mo L' * R) := by
  have := mr_join r mo L hL k1 k2 id w0 w R h
  rw [e] at this
  exact this
theorem mr_leave_to (h : St w0 w (MRef r mo L * R)) (hL : L.length ≤ 100000) (e : rleave L (k1, k2) = (L', b)) :
    Calls Try.prog 19 #[ptrX r, .int .i64 k1, .int .i64 k2] w fun e w' => e = .returned (.bool b) ∧ St w0 w' (MRef r mo L' * R) := by
  have := mr_leave r mo L hL k1 k2 w0 w R h
  rw [e] at this
  exact this
theorem mr_drop_to (h : St w0 w (MRef r mo L * R)) (hL : L.length ≤ 100000) (e1 : (rdrop L id).1 = L') (e2 : ((rdrop L id).2 : Int) = n) :
    Calls Try.prog 20 #[ptrX r, .int .i64 id] w fun e w' => e = .returned (.int .i64 n) ∧ St w0 w' (MRef r mo L' * R) := by
  have := mr_drop r mo L hL id w0 w R h
  have hle := List.length_filter_le (fun p : En => decide (p.2 ≠ id)) L
  unfold rdrop at e1 e2
  simp only [] at e1 e2
  rw [show (L.length : Int) - (L.filter fun p => decide (p.2 ≠ id)).length = n by omega, e1] at this
  exact this
end

def wk : Nat → Mx
  | 0 => ⟨9, []⟩
  | 1 => ⟨9, [((0, 64), 1)]⟩
  | 2 => ⟨9, [((0, 64), 1), ((0, 65), 2)]⟩
  | _ => ⟨9, [((0, 64), 1), ((0, 65), 2), ((16, 64), 1)]⟩
theorem wk0 : (wk 0).join (0, 64) 1 = (wk 1, 0) := by kernel_rfl
theorem wk1 : (wk 1).join (0, 65) 2 = (wk 2, 0) := by kernel_rfl
theorem wk2 : (wk 2).join (16, 64) 1 = (wk 3, 0) := by kernel_rfl
theorem wk_len : ∀ n, (wk n).l.length ≤ 3
  | 0 => by decide
  | 1 => by decide
  | 2 => by decide
  | n + 3 => by simp [wk]
theorem wk_route : (wk 3).route (0, 127) = [1, 2] := by kernel_rfl
theorem wk_links : linksOf (wk 3).l 1 = [(0, 64), (16, 64)] := by
  refine strict_ext aheadL_irr aheadL_asy (linksOf_strict (by decide) 1) (by simp [aheadL]) fun k => ?_
  rw [linksOf_mem]
  obtain ⟨a, b⟩ := k
  simp [wk]

set_option maxRecDepth 100000 in
theorem mx_wakes (w0 w : World) (R : HP) (h : St w0 w R) :
    Calls Try.prog 8 #[] w fun e w' => e = .returned (.bool true) ∧ St w0 w' R := by
  go_enter Try.func8, Try.ntmps8
  go_wp2_with fail
  refine (x_new 9 w0 w R h).mono ?_
  rintro e w1 ⟨m, rfl, h1⟩
  have h2 : St w0 w1 (XAt m (wk 0) * R) := h1
  have h3 := (h2.alloc (.cells #[.int .i64 0, .int .i64 0, .int .i64 64, .int .i64 1, .int .i64 0, .int .i64 0, .int .i64 65, .int .i64 2, .int .i64 0, .int .i64 16, .int .i64 64, .int .i64 1] 29)).f2
  go_wp2
  generalize w1.alloc _ = w2 at *
  generalize w1.heap.size = gs at *
  go_loopw [12] (fun i wr => ∃ k : Nat, k ≤ 3 ∧ i = .int .i64 k ∧ St w0 wr (XAt m (wk k) * (blk gs (.cells #[.int .i64 0, .int .i64 0, .int .i64 64, .int .i64 1, .int .i64 0, .int .i64 0, .int .i64 65, .int .i64 2, .int .i64 0, .int .i64 16, .int .i64 64, .int .i64 1] 29 (0, 0)) * R))) (fun i _ => 3 - (intOf i).toNat)
  case atStart => exact ⟨0, by omega, rfl, h3⟩
  case round =>
    clear h h1 h2 h3
    obtain ⟨k, hk, rfl, h4⟩ := hrel
    rcases (show k = 0 ∨ k = 1 ∨ k = 2 ∨ k = 3 by omega) with rfl | rfl | rfl | rfl
    · have d0 : wr.cell? ⟨gs, 0, none⟩ = some (.int .i64 0) := h4.f2.cell 0
      have d1 : wr.cell? ⟨gs, 0 + 1, none⟩ = some (.int .i64 0) := h4.f2.cell (0 + 1)
      have d2 : wr.cell? ⟨gs, 0 + 2, none⟩ = some (.int .i64 64) := h4.f2.cell (0 + 2)
      have d3 : wr.cell? ⟨gs, 0 + 3, none⟩ = some (.int .i64 1) := h4.f2.cell (0 + 3)
      have h5 := h4.alloc (.cells #[.int .i64 0, .int .i64 0, .int .i64 64, .int .i64 1] 29)
      go_upto_region 5 with fail
      generalize wr.alloc _ = w5 at *
      generalize wr.heap.size = ga at *
      have c5 := h5.cell
      clear h4 d0 d1 d2 d3
      go_wp2_with fail
      refine (x_join_to h5.f2 (k1 := 0) (k2 := 64) (id := 1) ⟨by decide, by decide⟩ (by have := wk_len 0; omega) wk0).mono ?_
      rintro e w6 ⟨rfl, h6⟩
      go_wp2
      go_roundw
      case rel => exact ⟨0 + 1, by omega, by go_num, h6.f2.drop⟩
      case measure => simp [intOf]
    · have d0 : wr.cell? ⟨gs, 4, none⟩ = some (.int .i64 0) := h4.f2.cell 4
      have d1 : wr.cell? ⟨gs, 4 + 1, none⟩ = some (.int .i64 0) := h4.f2.cell (4 + 1)
      have d2 : wr.cell? ⟨gs, 4 + 2, none⟩ = some (.int .i64 65) := h4.f2.cell (4 + 2)
      have d3 : wr.cell? ⟨gs, 4 + 3, none⟩ = some (.int .i64 2) := h4.f2.cell (4 + 3)
      have h5 := h4.alloc (.cells #[.int .i64 0, .int .i64 0, .int .i64 65, .int .i64 2] 29)
      go_upto_region 5 with fail
      generalize wr.alloc _ = w5 at *
      generalize wr.heap.size = ga at *
      have c5 := h5.cell
      clear h4 d0 d1 d2 d3
      go_wp2_with fail
      refine (x_join_to h5.f2 (k1 := 0) (k2 := 65) (id := 2) ⟨by decide, by decide⟩ (by have := wk_len 1; omega) wk1).mono ?_
      rintro e w6 ⟨rfl, h6⟩
      go_wp2
      go_roundw
      case rel => exact ⟨1 + 1, by omega, by go_num, h6.f2.drop⟩
      case measure => simp [intOf]
    · have d0 : wr.cell? ⟨gs, 8, none⟩ = some (.int .i64 0) := h4.f2.cell 8
      have d1 : wr.cell? ⟨gs, 8 + 1, none⟩ = some (.int .i64 16) := h4.f2.cell (8 + 1)
      have d2 : wr.cell? ⟨gs, 8 + 2, none⟩ = some (.int .i64 64) := h4.f2.cell (8 + 2)
      have d3 : wr.cell? ⟨gs, 8 + 3, none⟩ = some (.int .i64 1) := h4.f2.cell (8 + 3)
      have h5 := h4.alloc (.cells #[.int .i64 0, .int .i64 16, .int .i64 64, .int .i64 1] 29)
      go_upto_region 5 with fail
      generalize wr.alloc _ = w5 at *
      generalize wr.heap.size = ga at *
      have c5 := h5.cell
      clear h4 d0 d1 d2 d3
      go_wp2_with fail
      refine (x_join_to h5.f2 (k1 := 16) (k2 := 64) (id := 1) ⟨by decide, by decide⟩ (by have := wk_len 2; omega) wk2).mono ?_
      rintro e w6 ⟨rfl, h6⟩
      go_wp2
      go_roundw
      case rel => exact ⟨2 + 1, by omega, by go_num, h6.f2.drop⟩
      case measure => simp [intOf]
    · go_wp2_with fail
      refine (x_route m (wk 3) (0, 127) ⟨by decide, by decide⟩ _ _ _ h4 (by have := wk_len 3; omega)).mono ?_
      rintro e w5 ⟨v1, rfl, h5⟩
      rw [wk_route] at h5
      obtain ⟨a1, c1, rfl, _, _⟩ := h5.l_shape
      go_wp2_with fail
      refine (x_links m (wk 3) 1 _ _ _ h5.f2 (by have := wk_len 3; omega)).mono ?_
      rintro e w6 ⟨v2, rfl, h6⟩
      rw [wk_links] at h6
      rcases h6.l_cells tyLk.len with ⟨h0, _⟩ | ⟨g2, o2, p2, rfl, _, _, hc2⟩
      · cases h0
      rcases h6.f3.l_cells tyZ.len with ⟨h0, _⟩ | ⟨g1, o1, p1, hv1, _, _, hc1⟩
      · cases h0
      simp only [Value.slice.injEq] at hv1
      obtain ⟨rfl, hq1, rfl⟩ := hv1
      clear hq1
      have d0 : w6.cell? ⟨g1, o1 + 1, none⟩ = some (.int .i64 2) := hc1 1 2 rfl 0 _ rfl
      have d1 : w6.cell? ⟨g2, o2 + 2, none⟩ = some (.int .i64 16) := hc2 1 (16, 64) rfl 0 _ rfl
      clear hc1 hc2
      go_wp2
      go_ret
      exact ⟨by first | rfl | simp, h6.drop.drop.drop.drop⟩

/-- of the same numbers -/
theorem eq_same (v1 v2 : Value) (l : List Int) (hl : l.length ≤ 1000000) (w0 w : World) (R : HP) (h : St w0 w (LAt 3 1 intL v1 l * (LAt 3 1 intL v2 l * R))) :
    Calls Try.prog 11 #[v1, v2] w fun e w' => e = .returned (.bool true) ∧ St w0 w' (LAt 3 1 intL v1 l * (LAt 3 1 intL v2 l * R)) := by
  obtain ⟨a1, c1, rfl, _, _⟩ := h.l_shape
  obtain ⟨a2, c2, rfl, _, _⟩ := h.f2.l_shape
  obtain ⟨n, hn⟩ : ∃ n, l.length = n := ⟨_, rfl⟩
  have hge : ∀ j : Nat, j < n → ∃ y, l[j]? = some y := fun j hj => ⟨_, List.getElem?_eq_getElem (by omega)⟩
  rw [hn] at h hl ⊢
  have HGE := Lib.hid hge
  clear hn hge
  go_enter Try.func11, Try.ntmps11
  go_wp2
  go_loopw [13] (fun i wr => ∃ j : Nat, j ≤ n ∧ i = .int .i64 j ∧ St w0 wr (LAt 3 1 intL (.slice a1 n c1) l * (LAt 3 1 intL (.slice a2 n c2) l * R))) (fun i _ => n - (intOf i).toNat)
  case atStart => exact ⟨0, by omega, rfl, h⟩
  case round =>
    clear h
    obtain ⟨j, hj, rfl, h2⟩ := hrel
    by_cases hlj : j < n
    · obtain ⟨y, hy⟩ := HGE.out j hlj
      rcases h2.l_cells tyZ.len with ⟨h0, _⟩ | ⟨g1, o1, p1, hv1, _, _, hc1⟩
      · rw [h0] at hy; simp at hy
      rcases h2.f2.l_cells tyZ.len with ⟨h0, _⟩ | ⟨g2, o2, p2, hv2, _, _, hc2⟩
      · rw [h0] at hy; simp at hy
      simp only [Value.slice.injEq] at hv1 hv2
      obtain ⟨rfl, hq1, rfl⟩ := hv1
      obtain ⟨rfl, hq2, rfl⟩ := hv2
      clear hq1 hq2
      have d0 : wr.cell? ⟨g1, o1 + j, none⟩ = some (.int .i64 y) := by simpa using hc1 j _ hy 0 _ rfl
      have d1 : wr.cell? ⟨g2, o2 + j, none⟩ = some (.int .i64 y) := by simpa using hc2 j _ hy 0 _ rfl
      clear hc1 hc2 hy
      go_upto_region 6 with fail
      go_quiet (fail)
      go_wp2
      go_roundw
      case rel => exact ⟨j + 1, by omega, by go_num, h2.drewN _⟩
      case measure => simp [intOf]; omega
    · go_wp2
      go_ret
      exact ⟨rfl, h2⟩
end Go.Proofs.Ytkcclijckpbobaa
