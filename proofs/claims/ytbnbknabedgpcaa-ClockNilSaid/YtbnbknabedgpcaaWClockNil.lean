/- ClockNil: the walk. -/
import Derived.Test.YtbnbknabedgpcaaWClockWakes
namespace Go.Proofs.Ytbnbknabedgpcaa
open Go.RowKit Go.Sort

theorem cn_runs (k1 k2 : Int) (w0 w : World) (R : HP) (h : St w0 w R) : Calls Try.prog 23 #[.pointer none, .agg #[.int .i64 k1, .int .i64 k2]] w fun e w' => e = .returned (.tuple #[.int .i64 0, .bool false]) ∧ St w0 w' R := by
  go_enter Try.func23, Try.ntmps23
  go_wp2
  go_ret2
  exact ⟨rfl, (h.alloc _).drop⟩
theorem cn_next (w0 w : World) (R : HP) (h : St w0 w R) : Calls Try.prog 20 #[.pointer none] w fun e w' => e = .returned (.tuple #[.int .i64 0, .bool false]) ∧ St w0 w' R := by
  go_enter Try.func20, Try.ntmps20
  go_wp2
  go_ret2
  exact ⟨rfl, h⟩
theorem cn_start (k1 k2 n p : Int) (w0 w : World) (R : HP) (h : St w0 w R) : Calls Try.prog 19 #[.pointer none, .agg #[.int .i64 k1, .int .i64 k2], .int .i64 n, .int .i64 p] w fun e w' => e = .returned (.int .i64 1) ∧ St w0 w' R := by
  go_enter Try.func19, Try.ntmps19
  go_wp2
  go_ret
  exact ⟨rfl, (h.alloc _).drop⟩
theorem cn_stop (k1 k2 : Int) (w0 w : World) (R : HP) (h : St w0 w R) : Calls Try.prog 24 #[.pointer none, .agg #[.int .i64 k1, .int .i64 k2]] w fun e w' => e = .returned (.bool false) ∧ St w0 w' R := by
  have h1 := (h.alloc (.cells #[.int .i64 k1, .int .i64 k2] 43)).drop
  go_enter Try.func24, Try.ntmps24
  go_wp2_with fail
  refine (cn_runs k1 k2 _ _ _ h1).mono ?_
  rintro e w1 ⟨rfl, h2⟩
  go_wp2
  go_ret
  exact ⟨rfl, h2⟩
theorem cn_drop (o : Int) (w0 w : World) (R : HP) (h : St w0 w R) : Calls Try.prog 26 #[.pointer none, .int .i64 o] w fun e w' => e = .returned (.int .i64 0) ∧ St w0 w' R := by
  go_enter Try.func26, Try.ntmps26
  go_wp2
  go_ret
  exact ⟨rfl, h⟩
theorem cn_due (n : Int) (w0 w : World) (R : HP) (h : St w0 w R) : Calls Try.prog 21 #[.pointer none, .int .i64 n] w fun e w' => e = .returned (.slice none 0 0) ∧ St w0 w' R := by
  go_enter Try.func21, Try.ntmps21
  go_wp2
  go_ret
  exact ⟨rfl, (h.alloc _).drop⟩

set_option maxRecDepth 100000 in
set_option maxHeartbeats 1600000 in
theorem ClockNil.walk (a0 : Array Value) (w : World) (w0 : Sh.ok w CkSh a0.toList) :
    Calls Try.prog 8 #[.agg a0] w fun e w' => e = .returned (.bool true) ∧ Below w.heap.size w w' := by
  obtain ⟨y, hy, yok⟩ := ck_one w0
  obtain rfl : a0 = y.cells := by cases a0; simp only at hy; rw [hy]
  obtain ⟨yd, yo, yt, yn, yp⟩ := y
  have h0 := ((St.start w).alloc (.cells #[.int .i64 yd, .int .i64 yo, .int .i64 yt, .int .i64 yn, .int .i64 yp] 41)).alloc (.cells #[.int .i64 yo, .int .i64 yt] 43)
  simp only [World.size_alloc] at h0
  go_enter Try.func8, Try.ntmps8
  go_wp2_with fail
  refine (cn_runs yo yt _ _ _ h0).mono ?_
  rintro e w2 ⟨rfl, h2⟩
  go_wp2_with fail
  refine (cn_next _ _ _ h2).mono ?_
  rintro e w3 ⟨rfl, h3⟩
  go_wp2_with fail
  refine (ck_wakes _ _ _ h3).mono ?_
  rintro e w4 ⟨rfl, h4⟩
  have c4 := h4.cell
  have a4 := h4.f2.cell
  clear h0 h2 h3
  go_wp2_with fail
  refine (cn_start yo yt yn yp _ _ _ h4).mono ?_
  rintro e w5 ⟨rfl, h5⟩
  clear c4 a4 h4
  have c4 := h5.cell
  have a4 := h5.f2.cell
  go_wp2_with fail
  refine (cn_stop yo yt _ _ _ h5).mono ?_
  rintro e w6 ⟨rfl, h6⟩
  clear c4 a4 h5
  have c4 := h6.cell
  have a4 := h6.f2.cell
  go_wp2_with fail
  refine (cn_drop yo _ _ _ h6).mono ?_
  rintro e w7 ⟨rfl, h7⟩
  clear c4 a4 h6
  have c4 := h7.cell
  have a4 := h7.f2.cell
  go_wp2_with fail
  refine (cn_due yn _ _ _ h7).mono ?_
  rintro e w8 ⟨rfl, h8⟩
  go_wp2
  go_ret
  exact ⟨rfl, h8.drop.drop.old0⟩
end Go.Proofs.Ytbnbknabedgpcaa
