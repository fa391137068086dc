/- EntityNil: the walk. -/
import Derived.Test.YtoophfokbioaaaaDoorEntY
namespace Go.Proofs.YtoophfokbioaaaaDoor
open Go.RowKit

theorem view_nil_eq (w : World) : (Op.equalIn 10000 36 (.agg zeroView) (.agg zeroView)).run Tryd.prog w = .ok true w := by kernel_rfl
theorem view_nil_guard (op : BinOp) (x y : Operand) (xs ys : Array Value) (w : World) : (eqGuard op 36 x y (.agg xs) (.agg ys)).run Tryd.prog w = .ok () w := run_eqGuard_agg (P := Tryd.prog) w op 36 x y xs ys (by kernel_rfl)

set_option maxRecDepth 100000 in
set_option maxHeartbeats 1600000 in
theorem EntityNil.walk (a0 : Array Value) (w : World) (hN : NamesAt w) (w0 : Sh.ok w acSh a0.toList) :
    Calls Tryd.prog 4 #[.agg a0] w fun e w' => e = .returned (.bool true) ∧ Below w.heap.size w w' := by
  obtain ⟨a, ha, wf⟩ := ac_of w0
  obtain rfl : a0 = a.cells.toArray := by rw [← ha]
  obtain ⟨Do, ask, timer, tei, data, ⟨a1, a2, cmd, k, pf, ns, nr, inf⟩, near, N, M⟩ := a
  have h1 := (St.start w).eq (one_star _).symm
  have h2 := ((St.start w).alloc (.cells (AcE.cells ⟨Do, ask, timer, tei, data, ⟨a1, a2, cmd, k, pf, ns, nr, inf⟩, near, N, M⟩).toArray TAc))
  have hO : ∀ w', St w w' (Old w) → NamesAt w' := fun w' h => hN.old h.old0 hN.pos
  clear w0 ha wf h1
  go_enter Tryd.func4, Tryd.ntmps4
  go_upto_region 1 with fail
  generalize w.alloc _ = wa at *
  generalize w.heap.size = ga at *
  have d := h2.cell
  go_wp2_with fail
  refine (l_frames ⟨a1, a2, cmd, k, pf, ns, nr, inf⟩ w wa _ h2).mono ?_
  rintro r w1 ⟨rfl, h3⟩
  clear h2 d
  have h4 := (h3.alloc (.cells (Fr.cells ⟨a1, a2, cmd, k, pf, ns, nr, inf⟩).toArray TFr)).alloc (.cells (Fr.cells ⟨a1, a2, cmd, k, pf, ns, nr, inf⟩).toArray 53)
  clear h3
  go_upto_region 3 with fail
  simp only [World.size_alloc] at *
  generalize (w1.alloc _).alloc _ = wb at *
  generalize w1.heap.size = gb at *
  have d := h4.f3.cell
  have d2 := h4.f2.cell
  have hwk := en_wakes w wb _ (fun w' h => hO w' h.drop.drop.drop) h4
  have hev := view_nil_eq
  have heg := view_nil_guard
  go_wp2_with (first | (go_at_call 6; refine (e_nil_ask _ _ _).mono ?_; rintro r w' ⟨rfl, rfl⟩) | (go_at_call 8; refine (e_nil_assign _ _).mono ?_; rintro r w' ⟨rfl, rfl⟩) | (go_at_call 11; refine (e_nil_remove _).mono ?_; rintro r w' ⟨rfl, rfl⟩))
  refine hwk.mono ?_
  rintro r w2 ⟨rfl, h5⟩
  clear hwk h4
  have d := h5.f3.cell
  have d2 := h5.f2.cell
  go_wp2_with fail
  refine (e_nil_frame ⟨a1, a2, cmd, k, pf, ns, nr, inf⟩ w w2 _ h5).mono ?_
  rintro r w3 ⟨rfl, h6⟩
  clear h5
  have d := h6.f3.cell
  go_wp2_with fail
  refine (e_nil_timeout _ _).mono ?_
  rintro r w4 ⟨rfl, rfl⟩
  go_wp2_with fail
  refine (e_nil_view w w3 _ h6).mono ?_
  rintro r w4 ⟨rfl, h7⟩
  go_wp2
  go_ret
  exact ⟨rfl, h7.drop.drop.drop.old0⟩
end Go.Proofs.YtoophfokbioaaaaDoor
