/- The entity: New, Remove. -/
import Derived.Test.YtoophfokbioaaaaDoorEntI
namespace Go.Proofs.YtoophfokbioaaaaDoor
open Go.RowKit

abbrev newFl (k : Int) : Fl := ⟨0, 0, 0, false, false, false, k, ⟨(max (1 : Int) (min 256 256)).toNat, [], 0⟩⟩
abbrev newEn (k n : Int) : En := ⟨max 1 (min n 32), 1, -1, 0, false, false, false, [], newFl k, []⟩
theorem newEn_runs (k n t : Int) : (newEn k n).runs t = false := by
  unfold En.runs
  split
  · rfl
  · split <;> rfl
theorem new_end {M k : Int} {rm fp ga : Nat} {o : Obj} {w0 w1 : World} {R : HP} (h2 : St w0 w1 (FAt TF TQ fp (newFl k) * (MAt kInt vBool rm [] * (blk ga o * R)))) :
    St w0 (w1.alloc (.cells #[.int .i64 M, .int .i64 1, .int .i64 (-1), .int .i64 0, .bool false, .map (some rm), .slice none 0 0, ptr fp, .slice none 0 0] TEn)) (EnAt w1.heap.size ⟨M, 1, -1, 0, false, false, false, [], newFl k, []⟩ * R) := by
  have h3 := ((h2.alloc (.cells #[.int .i64 M, .int .i64 1, .int .i64 (-1), .int .i64 0, .bool false, .map (some rm), .slice none 0 0, ptr fp, .slice none 0 0] TEn)).row_nil 9 1).l_nil TFx 11 Fx.cells
  have h4 := h3.eq (show _ = blk w1.heap.size (.cells #[.int .i64 M, .int .i64 1, .int .i64 (-1), .int .i64 0, .bool false, .map (some rm), .slice none 0 0, ptr fp, .slice none 0 0] TEn (0, 0)) * (LAt TFx 11 Fx.cells (.slice none 0 0) [] * (MAt kInt vBool rm [] * (FAt TF TQ fp (newFl k) * (Row 9 1 (.slice none 0 0) 0 [] * (blk ga o * R))))) by ac_rfl)
  exact (h4.e_shut (x := ⟨M, 1, -1, 0, false, false, false, [], newFl k, []⟩) rfl rfl (fun t => (newEn_runs k M t).symm) rfl rfl rfl).f2.drop
set_option maxRecDepth 100000 in
set_option maxHeartbeats 1600000 in
theorem e_new (k n : Int) (w0 w : World) (R : HP) (h : St w0 w R) :
    Calls Tryd.prog 5 #[.agg #[.int .i64 k, .int .i64 n]] w fun r w' => ∃ e, r = .returned (ptr e) ∧ St w0 w' (EnAt e (newEn k n) * R) := by
  have hmm := @run_makeMap Tryd.prog
  have hA := h.alloc (.cells #[.int .i64 k, .int .i64 n] 26)
  by_cases n32 : 32 < n
  · have hM : max 1 (min n 32) = 32 := by omega
    rw [newEn, hM]
    clear hM
    go_enter Tryd.func5, Tryd.ntmps5
    go_upto_region 1 with fail
    generalize w.alloc _ = wa at *
    generalize w.heap.size = ga at *
    have c0 := hA.cell
    have lt0 := hA.lt
    have h1 := hA.map_new kInt vBool
    go_region_held3 (fun wx => wx.cell? ⟨ga, 0, none⟩ = some (.int .i64 k) ∧ wx.cell? ⟨ga, 1, none⟩ = some (.int .i64 n)) (first | exact ⟨c0 0, c0 1⟩ | exact ⟨c1 0, c1 1⟩ | exact ⟨c2 0, c2 1⟩ | go_keep) (first | (go_at_call 14; with_reducible refine (f_new k 256 w0 _ _ h1.drew).mono ?_; rintro r w1 ⟨fp, rfl, h2⟩; have c1 := h2.f3.cell) | (go_at_call 14; with_reducible refine (f_new k 256 w0 _ _ hA.drew).mono ?_; rintro r w1 ⟨fp, rfl, h3⟩; have c2 := h3.f2.cell))
    all_goals (
      go_wp2
      go_ret
      first
        | exact ⟨_, rfl, new_end h2⟩
        | exact ⟨_, rfl, by have := new_end (M := 32) (h3.map_new kInt vBool).f2; simpa only [World.size_alloc] using this⟩)
  by_cases n1 : 1 < n
  · have hM : max 1 (min n 32) = n := by omega
    rw [newEn, hM]
    clear hM
    go_enter Tryd.func5, Tryd.ntmps5
    go_upto_region 1 with fail
    generalize w.alloc _ = wa at *
    generalize w.heap.size = ga at *
    have c0 := hA.cell
    have lt0 := hA.lt
    have h1 := hA.map_new kInt vBool
    go_region_held3 (fun wx => wx.cell? ⟨ga, 0, none⟩ = some (.int .i64 k) ∧ wx.cell? ⟨ga, 1, none⟩ = some (.int .i64 n)) (first | exact ⟨c0 0, c0 1⟩ | exact ⟨c1 0, c1 1⟩ | exact ⟨c2 0, c2 1⟩ | go_keep) (first | (go_at_call 14; with_reducible refine (f_new k 256 w0 _ _ h1.drew).mono ?_; rintro r w1 ⟨fp, rfl, h2⟩; have c1 := h2.f3.cell) | (go_at_call 14; with_reducible refine (f_new k 256 w0 _ _ hA.drew).mono ?_; rintro r w1 ⟨fp, rfl, h3⟩; have c2 := h3.f2.cell))
    all_goals (
      go_wp2
      go_ret
      first
        | exact ⟨_, rfl, new_end h2⟩
        | exact ⟨_, rfl, by have := new_end (M := n) (h3.map_new kInt vBool).f2; simpa only [World.size_alloc] using this⟩)
  · have hM : max 1 (min n 32) = 1 := by omega
    rw [newEn, hM]
    clear hM
    go_enter Tryd.func5, Tryd.ntmps5
    go_upto_region 1 with fail
    generalize w.alloc _ = wa at *
    generalize w.heap.size = ga at *
    have c0 := hA.cell
    have lt0 := hA.lt
    have h1 := hA.map_new kInt vBool
    go_region_held3 (fun wx => wx.cell? ⟨ga, 0, none⟩ = some (.int .i64 k) ∧ wx.cell? ⟨ga, 1, none⟩ = some (.int .i64 n)) (first | exact ⟨c0 0, c0 1⟩ | exact ⟨c1 0, c1 1⟩ | exact ⟨c2 0, c2 1⟩ | go_keep) (first | (go_at_call 14; with_reducible refine (f_new k 256 w0 _ _ h1.drew).mono ?_; rintro r w1 ⟨fp, rfl, h2⟩; have c1 := h2.f3.cell) | (go_at_call 14; with_reducible refine (f_new k 256 w0 _ _ hA.drew).mono ?_; rintro r w1 ⟨fp, rfl, h3⟩; have c2 := h3.f2.cell))
    all_goals (
      go_wp2
      go_ret
      first
        | exact ⟨_, rfl, new_end h2⟩
        | exact ⟨_, rfl, by have := new_end (M := 1) (h3.map_new kInt vBool).f2; simpa only [World.size_alloc] using this⟩)
end Go.Proofs.YtoophfokbioaaaaDoor
