/- The flow laws' walks, further: FlowNil, FlowRefuses, FlowStops, FlowAnew. -/
import Derived.Test.YtopjbiiddaoklaaWFlowLaws
namespace Go.Proofs.Ytopjbiiddaoklaa
open Go.RowKit

abbrev zview : Array Value := #[.int .i64 0, .int .i64 0, .int .i64 0, .bool false, .bool false, .bool false, .int .i64 0, .int .i64 0]

/-! Views, compared. -/
theorem view_eqi (a b c g h a' b' c' g' h' : Int) (x y z x' y' z' : Bool) (w : World) :
    (Op.equalIn 10000 57 (.agg #[.int .i64 a, .int .i64 b, .int .i64 c, .bool x, .bool y, .bool z, .int .i64 g, .int .i64 h]) (.agg #[.int .i64 a', .int .i64 b', .int .i64 c', .bool x', .bool y', .bool z', .int .i64 g', .int .i64 h'])).run Try.prog w =
      .ok (a == a' && (b == b' && (c == c' && (x == x' && (y == y' && (z == z' && (g == g' && h == h'))))))) w := by
  rw [run_equalIn_agg (P := Try.prog) w 9999 57 _ _ (by kernel_rfl) (by kernel_rfl)]
  go_simp
  repeat' split
  all_goals simp_all
theorem view_guard (op : BinOp) (x y : Operand) (xs ys : Array Value) (w : World) : (eqGuard op 57 x y (.agg xs) (.agg ys)).run Try.prog w = .ok () w := run_eqGuard_agg (P := Try.prog) w op 57 x y xs ys (by kernel_rfl)

/-! Nil -/
theorem f_nil_view (w0 w : World) (R : HP) (h : St w0 w R) : Calls Try.prog 36 #[.pointer none] w fun e w' => e = .returned (.agg zview) ∧ St w0 w' R := by
  have h1 := h.alloc (.cells zview 57)
  have c1 := h1.cell
  have f1 := h1.free
  go_enter Try.func36, Try.ntmps36
  go_wp2
  refine bodyPost_ret (v := .agg zview) (by simp [results, Try.results36, go_sem, c1]) rfl ⟨rfl, ?_⟩
  exact h1.drop
theorem f_nil_push (d : ByteArray) (w : World) : Calls Try.prog 32 #[.pointer none, .string d] w fun e w' => e = .returned (.int .i64 1) ∧ w = w' := by
  go_enter Try.func32, Try.ntmps32
  go_wp2
  go_ret
  exact ⟨rfl, rfl⟩
theorem f_nil_take (w : World) : Calls Try.prog 34 #[.pointer none] w fun e w' => e = .returned (.tuple #[.int .i64 0, .string ⟨#[]⟩, .bool false]) ∧ ∃ n, w' = w.drewN n := by
  go_enter Try.func34, Try.ntmps34
  go_wp2
  go_quiet (fail)
  go_wp2
  go_ret3
  exact ⟨rfl, _, rfl⟩
theorem f_nil_ack (n : Int) (w : World) : Calls Try.prog 35 #[.pointer none, .int .i64 n] w fun e w' => e = .returned (.tuple #[.int .i64 0, .int .i64 1]) ∧ w = w' := by
  go_enter Try.func35, Try.ntmps35
  go_wp2
  go_ret2
  exact ⟨rfl, rfl⟩
theorem f_nil_back (w : World) : Calls Try.prog 37 #[.pointer none] w fun e w' => e = .returned (.tuple #[]) ∧ w = w' := by
  go_enter Try.func37, Try.ntmps37
  go_wp2
  go_end0
  exact ⟨rfl, rfl⟩
theorem f_nil_come (n : Int) (w : World) : Calls Try.prog 38 #[.pointer none, .int .i64 n] w fun e w' => e = .returned (.int .i64 3) ∧ w = w' := by
  go_enter Try.func38, Try.ntmps38
  go_wp2
  go_ret
  exact ⟨rfl, rfl⟩
theorem f_nil_set_peer (b : Bool) (w : World) : Calls Try.prog 43 #[.pointer none, .bool b] w fun e w' => e = .returned (.tuple #[]) ∧ w = w' := by
  go_enter Try.func43, Try.ntmps43
  go_wp2
  go_end0
  exact ⟨rfl, rfl⟩
theorem f_nil_set_own (b : Bool) (w : World) : Calls Try.prog 45 #[.pointer none, .bool b] w fun e w' => e = .returned (.bool false) ∧ w = w' := by
  go_enter Try.func45, Try.ntmps45
  go_wp2
  go_ret
  exact ⟨rfl, rfl⟩
theorem f_nil_reset (w : World) : Calls Try.prog 44 #[.pointer none] w fun e w' => e = .returned (.tuple #[]) ∧ w = w' := by
  go_enter Try.func44, Try.ntmps44
  go_wp2
  go_end0
  exact ⟨rfl, rfl⟩
theorem f_nil_clear (w : World) : Calls Try.prog 46 #[.pointer none] w fun e w' => e = .returned (.int .i64 0) ∧ w = w' := by
  go_enter Try.func46, Try.ntmps46
  go_wp2
  go_ret
  exact ⟨rfl, rfl⟩
set_option maxRecDepth 100000 in
theorem FlowNil.walk (a0 : Array Value) (w : World) (w0 : Sh.ok w FActSh a0.toList) :
    Calls Try.prog 11 #[.agg a0] w fun e w' => e = .returned (.bool true) ∧ Below w.heap.size w w' := by
  obtain ⟨a, ha⟩ := FAct.of_ok w0
  obtain rfl : a0 = a.cells := Array.toList_inj.mp ha
  have hEq := view_eqi
  have hGd := view_guard
  have h0 := (St.start w).alloc (.cells a.cells 67)
  have c0 := h0.cell
  go_enter Try.func11, Try.ntmps11
  go_wp2_with fail
  refine (f_nil_take _).mono ?_
  rintro e w1 ⟨rfl, n, rfl⟩
  have h1 := h0.drewN n
  have c1 := h1.cell
  go_wp2_with (first | (go_at_call 35; refine (f_nil_ack _ _).mono ?_; rintro e w' ⟨rfl, rfl⟩) | (go_at_call 37; refine (f_nil_back _).mono ?_; rintro e w' ⟨rfl, rfl⟩) | (go_at_call 43; refine (f_nil_set_peer _ _).mono ?_; rintro e w' ⟨rfl, rfl⟩) | (go_at_call 44; refine (f_nil_reset _).mono ?_; rintro e w' ⟨rfl, rfl⟩))
  refine (f_wakes _ _ _ h1).mono ?_
  rintro e w2 ⟨rfl, h2⟩
  go_wp2_with fail
  refine (f_nil_view _ _ _ h2).mono ?_
  rintro e w3 ⟨rfl, h3⟩
  have c2 := h3.cell
  go_wp2_with (first | (go_at_call 32; refine (f_nil_push _ _).mono ?_; rintro e w' ⟨rfl, rfl⟩) | (go_at_call 38; refine (f_nil_come _ _).mono ?_; rintro e w' ⟨rfl, rfl⟩) | (go_at_call 45; refine (f_nil_set_own _ _).mono ?_; rintro e w' ⟨rfl, rfl⟩) | (go_at_call 46; refine (f_nil_clear _).mono ?_; rintro e w' ⟨rfl, rfl⟩))
  go_ret
  exact ⟨rfl, h3.drop.old0⟩
end Go.Proofs.Ytopjbiiddaoklaa
