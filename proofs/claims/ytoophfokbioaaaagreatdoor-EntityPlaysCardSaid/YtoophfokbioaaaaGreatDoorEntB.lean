/- The entity: tell, told, sendData, send, start, stop. -/
import Derived.Test.YtoophfokbioaaaaGreatDoorEntL
namespace Go.Proofs.YtoophfokbioaaaaGreatDoor
open Go.RowKit


set_option maxRecDepth 100000 in
theorem e_tell (e : Nat) (x : En) (y : Fx) (hl : x.out.length ≤ 100000) (w0 w : World) (R : HP) (h : St w0 w (EnAt e x * R)) :
    Calls Tryz.prog 92 #[ptr e, .agg y.cells.toArray] w fun r w' => r = .returned (.tuple #[]) ∧ St w0 w' (EnAt e (x.tell y) * R) := by
  obtain ⟨rm, fp, uv, ov, rl, hr, h1⟩ := h.e_open
  have h2 := h1.alloc (.cells y.cells.toArray TFx)
  clear h h1
  go_enter Tryz.func92, Tryz.ntmps92
  go_upto_region 1 with fail
  generalize w.alloc _ = wa at *
  generalize w.heap.size = ga at *
  have d := h2.cell
  have lte := h2.f2.lt
  have ltg := h2.lt
  have c := h2.f2.cell
  have hx := ((h2.alloc (.cells y.cells.toArray TFx)).l_mk tyFx.len [y] 1 rfl (by simp) (by decide)).f4
  have hge : (x.out.length + [y].length) * 104 ≤ 140737488355328 := by simp; omega
  have HX := Lib.hid hx
  clear hx
  go_region_law (refine step_append_l rfl (.tmp 8) (.tmp 10) rfl tyFx HX.out.drew (by simp) rfl rfl hge ?_; intro g off cap w8 h8; have c8 := h8.f3.cell; have f8 := h8.f3.free)
  all_goals (
    go_end0
    exact ⟨rfl, ((h8.f3.set 8 (.slice (some ⟨g, off, none⟩) (x.out.length + 1) cap)).f3.drop).e_shut (x := x.tell y) (rm := rm) (fp := fp) (uv := uv) rfl rfl hr rfl rfl rfl⟩)

theorem k_numb (k : Int) (w : World) : Calls Tryz.prog 51 #[.int .i64 k] w fun r w' => r = .returned (.bool (numb k)) ∧ w' = w := by
  unfold numb
  by_cases h0 : 0 ≤ k
  · have b0 : decide (0 ≤ k) = true := by simpa using h0
    have b1 : decide (k ≥ 0) = true := by simpa using h0
    rw [b0]
    go_enter Tryz.func51, Tryz.ntmps51
    go_wp2
    go_ret
    exact ⟨rfl, rfl⟩
  · have b0 : decide (0 ≤ k) = false := by simpa using h0
    have b1 : decide (k ≥ 0) = false := by simpa using h0
    rw [b0]
    go_enter Tryz.func51, Tryz.ntmps51
    go_wp2
    go_ret
    exact ⟨rfl, rfl⟩
end Go.Proofs.YtoophfokbioaaaaGreatDoor
