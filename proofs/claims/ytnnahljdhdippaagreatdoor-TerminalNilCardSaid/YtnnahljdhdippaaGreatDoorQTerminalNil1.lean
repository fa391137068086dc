/- TerminalNil: the walk. -/
import Derived.Test.YtnnahljdhdippaaGreatDoorB31
namespace Go.Proofs.YtnnahljdhdippaaGreatDoor
open Go.RowKit

theorem view_nil_eq (w : World) : (Op.equalIn 10000 49 (.agg zeroView) (.agg zeroView)).run Tryz.prog w = .ok true w := by kernel_rfl
theorem view_nil_guard (op : BinOp) (x y : Operand) (xs ys : Array Value) (w : World) : (eqGuard op 49 x y (.agg xs) (.agg ys)).run Tryz.prog w = .ok () w := run_eqGuard_agg (P := Tryz.prog) w op 49 x y xs ys (by kernel_rfl)
abbrev zeroUv : Array Value := #[.int .i64 0, .bool false, .int .i64 0, .int .i64 0]
theorem uv_nil_eq (w : World) : (Op.equalIn 10000 63 (.agg zeroUv) (.agg zeroUv)).run Tryz.prog w = .ok true w := by kernel_rfl
theorem uv_guard (op : BinOp) (x y : Operand) (xs ys : Array Value) (w : World) : (eqGuard op 63 x y (.agg xs) (.agg ys)).run Tryz.prog w = .ok () w := run_eqGuard_agg (P := Tryz.prog) w op 63 x y xs ys (by kernel_rfl)
theorem tn_next (w : World) : Calls Tryz.prog 32 #[.pointer none] w fun r w' => r = .returned (.tuple #[.int .i64 0, .bool false]) ∧ w = w' := by
  go_enter Tryz.func32, Tryz.ntmps32
  go_wp2
  go_ret2
  exact ⟨rfl, rfl⟩
set_option maxRecDepth 100000 in
theorem tn_link (w0 w : World) (R : HP) (h : St w0 w R) : Calls Tryz.prog 16 #[.pointer none] w fun r w' => r = .returned (.agg zeroView) ∧ St w0 w' R := by
  have h3 := h.alloc (.cells zeroView 49)
  go_enter Tryz.func16, Tryz.ntmps16
  go_upto_region 2 with fail
  generalize w.alloc _ = wa at *
  generalize w.heap.size = ga at *
  have c0 := h3.cell
  have f0 := h3.free
  have h4 := (((((((((((((((h3.set 0 (.int .i64 0)).set 1 (.int .i64 0)).set 2 (.int .i64 0)).set 3 (.bool false)).set 4 (.bool false)).set 5 (.bool false)).set 6 (.int .i64 0)).set 7 (.int .i64 0)).set 8 (.int .i64 0)).set 9 (.int .i64 0)).set 10 (.bool false)).set 11 (.bool false)).set 12 (.bool false)).set 13 (.int .i64 0)).set 14 (.int .i64 0))
  go_wp2
  have c4 := h4.cell
  exact bodyPost_ret (v := .agg zeroView) (by simp [results, Tryz.results16, go_sem, c4]) rfl ⟨rfl, h4.drop⟩
theorem tn_user (w0 w : World) (R : HP) (h : St w0 w R) : Calls Tryz.prog 22 #[.pointer none] w fun r w' => r = .returned (.agg zeroUv) ∧ St w0 w' R := by
  have h3 := h.alloc (.cells zeroUv 63)
  go_enter Tryz.func22, Tryz.ntmps22
  go_upto_region 2 with fail
  generalize w.alloc _ = wa at *
  generalize w.heap.size = ga at *
  have c0 := h3.cell
  have f0 := h3.free
  have h4 := (((h3.set 0 (.int .i64 0)).set 1 (.bool false)).set 2 (.int .i64 0)).set 3 (.int .i64 0)
  go_wp2
  have c4 := h4.cell
  exact bodyPost_ret (v := .agg zeroUv) (by simp [results, Tryz.results22, go_sem, c4]) rfl ⟨rfl, h4.drop⟩
set_option maxRecDepth 100000 in
set_option maxHeartbeats 1600000 in
theorem TerminalNil.walk (a0 : Array Value) (w : World) (hN : NamesAt w) (hF : FirstAt w) (hL : LinkAt w) (w0 : Sh.ok w atSh a0.toList) :
    Calls Tryz.prog 8 #[.agg a0] w fun e w' => e = .returned (.bool true) ∧ Below w.heap.size w w' := by
  obtain ⟨a, ha, wf⟩ := at_of w0
  obtain rfl : a0 = a.cells.toArray := by rw [← ha]
  obtain ⟨Do, ask, later, data, m0, m1, m2, own, fa, fn, fc, near, N, M, raw⟩ := a
  have hO : ∀ w', St w w' (Old w) → NamesAt w' := fun w' h => hN.old h.old0 hN.pos
  have hO2 : ∀ w', St w w' (Old w) → FirstAt w' := fun w' h => hF.old h.old0 hF.pos
  have hO3 : ∀ w', St w w' (Old w) → LinkAt w' := fun w' h => hL.old h.old0 hL.pos
  have h2 := ((St.start w).alloc (.cells (AcT.cells ⟨Do, ask, later, data, m0, m1, m2, own, fa, fn, fc, near, N, M, raw⟩).toArray TAct))
  clear w0 ha wf hN hF hL
  have d := h2.cell
  go_enter Tryz.func8, Tryz.ntmps8
  go_upto_region 1 with fail
  generalize w.alloc _ = wa at *
  generalize w.heap.size = ga at *
  go_wp2_with fail
  refine (tn_ask _ _ _ w wa _ h2).mono ?_
  rintro r wb ⟨rfl, hb⟩
  have h3 := hb.alloc (.cells #[.slice none 0 0, .slice none 0 0] TRes)
  clear d h2 hb
  go_upto_region 3 with fail
  generalize wb.alloc _ = w1 at *
  generalize wb.heap.size = g1 at *
  have d := h3.f2.cell
  go_wp2_with fail
  refine (tn_bits _ _ w w1 _ h3).mono ?_
  rintro r wb ⟨rfl, hb⟩
  have h4 := hb.alloc (.cells #[.slice none 0 0, .slice none 0 0] TRes)
  clear d h3 hb
  go_upto_region 4 with fail
  generalize wb.alloc _ = w2 at *
  generalize wb.heap.size = g2 at *
  have d := h4.f3.cell
  go_wp2_with fail
  refine (tn_tick _ w w2 _ h4).mono ?_
  rintro r wb ⟨rfl, hb⟩
  have h5 := hb.alloc (.cells #[.slice none 0 0, .slice none 0 0] TRes)
  clear d h4 hb
  go_upto_region 5 with fail
  generalize wb.alloc _ = w3 at *
  generalize wb.heap.size = g3 at *
  have d := h5.f4.cell
  go_wp2_with fail
  refine (tn_drop _ w w3 _ h5).mono ?_
  rintro r wb ⟨rfl, hb⟩
  have h6 := hb.alloc (.cells #[.slice none 0 0, .slice none 0 0] TRes)
  clear d h5 hb
  go_upto_region 6 with fail
  generalize wb.alloc _ = w4 at *
  generalize wb.heap.size = g4 at *
  go_upto_region 7 with (go_at_call 32; refine (tn_next _).mono ?_; rintro r w' ⟨rfl, rfl⟩)
  have hk := tt_wakes w w4 _ (fun w' h => hO w' h.drop.drop.drop.drop.drop) (fun w' h => hO2 w' h.drop.drop.drop.drop.drop) (fun w' h => hO3 w' h.drop.drop.drop.drop.drop) h6
  have e1 := view_nil_eq
  have e2 := view_nil_guard
  have e3 := uv_nil_eq
  have e4 := uv_guard
  go_wp2_with fail
  refine hk.mono ?_
  rintro r w5 ⟨rfl, h7⟩
  clear hk h6
  go_wp2_with fail
  refine (tn_link w w5 _ h7).mono ?_
  rintro r w6 ⟨rfl, h8⟩
  clear h7
  go_wp2_with fail
  refine (tn_user w w6 _ h8).mono ?_
  rintro r w7 ⟨rfl, h9⟩
  clear h8
  go_wp2
  go_ret
  exact ⟨rfl, h9.drop.drop.drop.drop.drop.old0⟩
end Go.Proofs.YtnnahljdhdippaaGreatDoor
