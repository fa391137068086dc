/- The entity's laws: what all of them ask first; a frame of both. -/
import Derived.Test.YtoophfokbioaaaaDoorEntX
import Derived.Test.YtoophfokbioaaaaDoorLaw
namespace Go.Proofs.YtoophfokbioaaaaDoor
open Go.RowKit

abbrev TLf : TypeId := 50
theorem set8 (u0 u1 u2 u3 u4 u5 u6 u7 v0 v1 v2 v3 v4 v5 v6 v7 : Value) : ((((((((#[u0, u1, u2, u3, u4, u5, u6, u7].setIfInBounds 0 v0).setIfInBounds 1 v1).setIfInBounds 2 v2).setIfInBounds 3 v3).setIfInBounds 4 v4).setIfInBounds 5 v5).setIfInBounds 6 v6).setIfInBounds 7 v7) = #[v0, v1, v2, v3, v4, v5, v6, v7] := by kernel_rfl
set_option maxRecDepth 100000 in
set_option maxHeartbeats 1600000 in
theorem l_frames (f : Fr) (w0 w : World) (R : HP) (h : St w0 w R) :
    Calls Tryd.prog 10 #[.agg f.cells.toArray] w fun r w' => r = .returned (.tuple #[.agg f.cells.toArray, .agg f.cells.toArray]) ∧ St w0 w' R := by
  obtain ⟨a1, a2, cmd, k, pf, ns, nr, inf⟩ := f
  have h1 := h.alloc (.cells (Fr.cells ⟨a1, a2, cmd, k, pf, ns, nr, inf⟩).toArray TLf)
  have h2 := h1.alloc (.cells (Fr.cells .none).toArray TFr)
  have h3 := h2.alloc (.cells (Fr.cells .none).toArray 53)
  clear h h1 h2
  go_enter Tryd.func10, Tryd.ntmps10
  go_upto_region 1 with fail
  simp only [World.size_alloc] at *
  generalize ((w.alloc _).alloc _).alloc _ = wa at *
  generalize w.heap.size = ga at *
  have d := h3.f3.cell
  have d2 := h3.drew.f2.cell
  have d1 := h3.drew.cell
  have f2 := h3.drew.f2.free
  have f1 := h3.drew.free
  have hA := (((((((((h3.drew.f2).set 0 (.int .i64 a1)).set 1 (.int .i64 a2)).set 2 (.bool cmd)).set 3 (.int .i64 k)).set 4 (.bool pf)).set 5 (.int .i64 ns)).set 6 (.int .i64 nr)).set 7 (.string inf))
  rw [set8] at hA
  have hB := (((((((((hA.f2).set 0 (.int .i64 a1)).set 1 (.int .i64 a2)).set 2 (.bool cmd)).set 3 (.int .i64 k)).set 4 (.bool pf)).set 5 (.int .i64 ns)).set 6 (.int .i64 nr)).set 7 (.string inf))
  rw [set8] at hB
  have S00 := (h3.drew.f3.cell 0).trans (show _ = some (Value.int .i64 a1) from rfl)
  have S01 := (h3.drew.f3.cell 1).trans (show _ = some (Value.int .i64 a2) from rfl)
  have S02 := (h3.drew.f3.cell 2).trans (show _ = some (Value.bool cmd) from rfl)
  have S03 := (h3.drew.f3.cell 3).trans (show _ = some (Value.int .i64 k) from rfl)
  have S04 := (h3.drew.f3.cell 4).trans (show _ = some (Value.bool pf) from rfl)
  have S05 := (h3.drew.f3.cell 5).trans (show _ = some (Value.int .i64 ns) from rfl)
  have S06 := (h3.drew.f3.cell 6).trans (show _ = some (Value.int .i64 nr) from rfl)
  have S07 := (h3.drew.f3.cell 7).trans (show _ = some (Value.string inf) from rfl)
  have S10 := (hA.f3.cell 0).trans (show _ = some (Value.int .i64 a1) from rfl)
  have S11 := (hA.f3.cell 1).trans (show _ = some (Value.int .i64 a2) from rfl)
  have S12 := (hA.f3.cell 2).trans (show _ = some (Value.bool cmd) from rfl)
  have S13 := (hA.f3.cell 3).trans (show _ = some (Value.int .i64 k) from rfl)
  have S14 := (hA.f3.cell 4).trans (show _ = some (Value.bool pf) from rfl)
  have S15 := (hA.f3.cell 5).trans (show _ = some (Value.int .i64 ns) from rfl)
  have S16 := (hA.f3.cell 6).trans (show _ = some (Value.int .i64 nr) from rfl)
  have S17 := (hA.f3.cell 7).trans (show _ = some (Value.string inf) from rfl)
  have S20 := (hB.f3.cell 0).trans (show _ = some (Value.int .i64 a1) from rfl)
  have S21 := (hB.f3.cell 1).trans (show _ = some (Value.int .i64 a2) from rfl)
  have S22 := (hB.f3.cell 2).trans (show _ = some (Value.bool cmd) from rfl)
  have S23 := (hB.f3.cell 3).trans (show _ = some (Value.int .i64 k) from rfl)
  have S24 := (hB.f3.cell 4).trans (show _ = some (Value.bool pf) from rfl)
  have S25 := (hB.f3.cell 5).trans (show _ = some (Value.int .i64 ns) from rfl)
  have S26 := (hB.f3.cell 6).trans (show _ = some (Value.int .i64 nr) from rfl)
  have S27 := (hB.f3.cell 7).trans (show _ = some (Value.string inf) from rfl)
  have g2 := (hA.f2).cell
  have fg2 := (hA.f2).free
  have r1 := (hB.f2).cell
  have r2 := hB.cell
  have hR := hB.drop.drop.drop
  refine wp_region_held_drew (S := fun wx => wx.cell? ⟨ga, 0, none⟩ = some (.int .i64 a1) ∧ wx.cell? ⟨ga, 1, none⟩ = some (.int .i64 a2) ∧ wx.cell? ⟨ga, 2, none⟩ = some (.bool cmd) ∧ wx.cell? ⟨ga, 3, none⟩ = some (.int .i64 k) ∧ wx.cell? ⟨ga, 4, none⟩ = some (.bool pf) ∧ wx.cell? ⟨ga, 5, none⟩ = some (.int .i64 ns) ∧ wx.cell? ⟨ga, 6, none⟩ = some (.int .i64 nr) ∧ wx.cell? ⟨ga, 7, none⟩ = some (.string inf)) (by kernel_rfl) ?_ (fun hHeld => ?_)
  · with_reducible exact ⟨S00, S01, S02, S03, S04, S05, S06, S07⟩
  clear d h3
  generalize wa.drew = wd at *
  refine wpAnyH_take (i := 0) (oi := { dst := some 4, op := Op.fieldAddr 50 (Operand.tmp 1) 0, type := 0, pos := "law.go:27", after := #[], guard := none }) (v := ?_) rfl (by kernel_rfl) (by kernel_rfl) (by kernel_rfl) (fun _ _ _ h => h) (Or.inl ⟨by rfl, ?_⟩) (by assumption) ?_
  rotate_left 1
  · intro w hSw
    try dsimp only at hSw
    go_simp
    try with_reducible rfl
  try simp only [Act.put, List.setIfInBounds_toArray, List.set_cons_zero, List.set_cons_succ]
  refine wpAnyH_take (i := 1) (oi := { dst := some 5, op := Op.load 3 (Operand.tmp 4), type := 3, pos := "law.go:27", after := #[{ on := 0, ground := Ground.data }], guard := none }) (v := ?_) rfl (by kernel_rfl) (by kernel_rfl) (by kernel_rfl) (fun _ _ _ h => h) (Or.inl ⟨by rfl, ?_⟩) (by assumption) ?_
  rotate_left 1
  · intro w hSw
    try dsimp only at hSw
    go_simp
    try with_reducible rfl
  try simp only [Act.put, List.setIfInBounds_toArray, List.set_cons_zero, List.set_cons_succ]
  refine wpAnyH_take (i := 2) (oi := { dst := some 6, op := Op.fieldAddr 50 (Operand.tmp 1) 1, type := 0, pos := "law.go:27", after := #[], guard := none }) (v := ?_) rfl (by kernel_rfl) (by kernel_rfl) (by kernel_rfl) (fun _ _ _ h => h) (Or.inl ⟨by rfl, ?_⟩) (by assumption) ?_
  rotate_left 1
  · intro w hSw
    try dsimp only at hSw
    go_simp
    try with_reducible rfl
  try simp only [Act.put, List.setIfInBounds_toArray, List.set_cons_zero, List.set_cons_succ]
  refine wpAnyH_take (i := 3) (oi := { dst := some 7, op := Op.load 3 (Operand.tmp 6), type := 3, pos := "law.go:27", after := #[{ on := 2, ground := Ground.data }], guard := none }) (v := ?_) rfl (by kernel_rfl) (by kernel_rfl) (by kernel_rfl) (fun _ _ _ h => h) (Or.inl ⟨by rfl, ?_⟩) (by assumption) ?_
  rotate_left 1
  · intro w hSw
    try dsimp only at hSw
    go_simp
    try with_reducible rfl
  try simp only [Act.put, List.setIfInBounds_toArray, List.set_cons_zero, List.set_cons_succ]
  refine wpAnyH_take (i := 4) (oi := { dst := some 8, op := Op.build 42 #[(0, Operand.tmp 5), (1, Operand.tmp 7)], type := 42, pos := "law.go:27", after := #[{ on := 1, ground := Ground.data }, { on := 3, ground := Ground.data }], guard := none }) (v := ?_) rfl (by kernel_rfl) (by kernel_rfl) (by kernel_rfl) (fun _ _ _ h => h) (Or.inl ⟨by rfl, ?_⟩) (by assumption) ?_
  rotate_left 1
  · intro w hSw
    try dsimp only at hSw
    go_simp
    try with_reducible rfl
  try simp only [Act.put, List.setIfInBounds_toArray, List.set_cons_zero, List.set_cons_succ]
  refine wpAnyH_take (i := 5) (oi := { dst := some 9, op := Op.fieldAddr 50 (Operand.tmp 1) 2, type := 0, pos := "law.go:27", after := #[], guard := none }) (v := ?_) rfl (by kernel_rfl) (by kernel_rfl) (by kernel_rfl) (fun _ _ _ h => h) (Or.inl ⟨by rfl, ?_⟩) (by assumption) ?_
  rotate_left 1
  · intro w hSw
    try dsimp only at hSw
    go_simp
    try with_reducible rfl
  try simp only [Act.put, List.setIfInBounds_toArray, List.set_cons_zero, List.set_cons_succ]
  refine wpAnyH_take (i := 6) (oi := { dst := some 10, op := Op.load 4 (Operand.tmp 9), type := 4, pos := "law.go:27", after := #[{ on := 5, ground := Ground.data }], guard := none }) (v := ?_) rfl (by kernel_rfl) (by kernel_rfl) (by kernel_rfl) (fun _ _ _ h => h) (Or.inl ⟨by rfl, ?_⟩) (by assumption) ?_
  rotate_left 1
  · intro w hSw
    try dsimp only at hSw
    go_simp
    try with_reducible rfl
  try simp only [Act.put, List.setIfInBounds_toArray, List.set_cons_zero, List.set_cons_succ]
  refine wpAnyH_take (i := 7) (oi := { dst := some 11, op := Op.fieldAddr 50 (Operand.tmp 1) 3, type := 0, pos := "law.go:27", after := #[], guard := none }) (v := ?_) rfl (by kernel_rfl) (by kernel_rfl) (by kernel_rfl) (fun _ _ _ h => h) (Or.inl ⟨by rfl, ?_⟩) (by assumption) ?_
  rotate_left 1
  · intro w hSw
    try dsimp only at hSw
    go_simp
    try with_reducible rfl
  try simp only [Act.put, List.setIfInBounds_toArray, List.set_cons_zero, List.set_cons_succ]
  refine wpAnyH_take (i := 8) (oi := { dst := some 12, op := Op.load 3 (Operand.tmp 11), type := 3, pos := "law.go:27", after := #[{ on := 7, ground := Ground.data }], guard := none }) (v := ?_) rfl (by kernel_rfl) (by kernel_rfl) (by kernel_rfl) (fun _ _ _ h => h) (Or.inl ⟨by rfl, ?_⟩) (by assumption) ?_
  rotate_left 1
  · intro w hSw
    try dsimp only at hSw
    go_simp
    try with_reducible rfl
  try simp only [Act.put, List.setIfInBounds_toArray, List.set_cons_zero, List.set_cons_succ]
  refine wpAnyH_take (i := 9) (oi := { dst := some 13, op := Op.fieldAddr 50 (Operand.tmp 1) 4, type := 0, pos := "law.go:27", after := #[], guard := none }) (v := ?_) rfl (by kernel_rfl) (by kernel_rfl) (by kernel_rfl) (fun _ _ _ h => h) (Or.inl ⟨by rfl, ?_⟩) (by assumption) ?_
  rotate_left 1
  · intro w hSw
    try dsimp only at hSw
    go_simp
    try with_reducible rfl
  try simp only [Act.put, List.setIfInBounds_toArray, List.set_cons_zero, List.set_cons_succ]
  refine wpAnyH_take (i := 10) (oi := { dst := some 14, op := Op.load 4 (Operand.tmp 13), type := 4, pos := "law.go:27", after := #[{ on := 9, ground := Ground.data }], guard := none }) (v := ?_) rfl (by kernel_rfl) (by kernel_rfl) (by kernel_rfl) (fun _ _ _ h => h) (Or.inl ⟨by rfl, ?_⟩) (by assumption) ?_
  rotate_left 1
  · intro w hSw
    try dsimp only at hSw
    go_simp
    try with_reducible rfl
  try simp only [Act.put, List.setIfInBounds_toArray, List.set_cons_zero, List.set_cons_succ]
  refine wpAnyH_take (i := 11) (oi := { dst := some 15, op := Op.fieldAddr 50 (Operand.tmp 1) 5, type := 0, pos := "law.go:27", after := #[], guard := none }) (v := ?_) rfl (by kernel_rfl) (by kernel_rfl) (by kernel_rfl) (fun _ _ _ h => h) (Or.inl ⟨by rfl, ?_⟩) (by assumption) ?_
  rotate_left 1
  · intro w hSw
    try dsimp only at hSw
    go_simp
    try with_reducible rfl
  try simp only [Act.put, List.setIfInBounds_toArray, List.set_cons_zero, List.set_cons_succ]
  refine wpAnyH_take (i := 12) (oi := { dst := some 16, op := Op.load 3 (Operand.tmp 15), type := 3, pos := "law.go:27", after := #[{ on := 11, ground := Ground.data }], guard := none }) (v := ?_) rfl (by kernel_rfl) (by kernel_rfl) (by kernel_rfl) (fun _ _ _ h => h) (Or.inl ⟨by rfl, ?_⟩) (by assumption) ?_
  rotate_left 1
  · intro w hSw
    try dsimp only at hSw
    go_simp
    try with_reducible rfl
  try simp only [Act.put, List.setIfInBounds_toArray, List.set_cons_zero, List.set_cons_succ]
  refine wpAnyH_take (i := 13) (oi := { dst := some 17, op := Op.fieldAddr 50 (Operand.tmp 1) 6, type := 0, pos := "law.go:27", after := #[], guard := none }) (v := ?_) rfl (by kernel_rfl) (by kernel_rfl) (by kernel_rfl) (fun _ _ _ h => h) (Or.inl ⟨by rfl, ?_⟩) (by assumption) ?_
  rotate_left 1
  · intro w hSw
    try dsimp only at hSw
    go_simp
    try with_reducible rfl
  try simp only [Act.put, List.setIfInBounds_toArray, List.set_cons_zero, List.set_cons_succ]
  refine wpAnyH_take (i := 14) (oi := { dst := some 18, op := Op.load 3 (Operand.tmp 17), type := 3, pos := "law.go:27", after := #[{ on := 13, ground := Ground.data }], guard := none }) (v := ?_) rfl (by kernel_rfl) (by kernel_rfl) (by kernel_rfl) (fun _ _ _ h => h) (Or.inl ⟨by rfl, ?_⟩) (by assumption) ?_
  rotate_left 1
  · intro w hSw
    try dsimp only at hSw
    go_simp
    try with_reducible rfl
  try simp only [Act.put, List.setIfInBounds_toArray, List.set_cons_zero, List.set_cons_succ]
  refine wpAnyH_take (i := 15) (oi := { dst := some 19, op := Op.fieldAddr 50 (Operand.tmp 1) 7, type := 0, pos := "law.go:27", after := #[], guard := none }) (v := ?_) rfl (by kernel_rfl) (by kernel_rfl) (by kernel_rfl) (fun _ _ _ h => h) (Or.inl ⟨by rfl, ?_⟩) (by assumption) ?_
  rotate_left 1
  · intro w hSw
    try dsimp only at hSw
    go_simp
    try with_reducible rfl
  try simp only [Act.put, List.setIfInBounds_toArray, List.set_cons_zero, List.set_cons_succ]
  refine wpAnyH_take (i := 16) (oi := { dst := some 20, op := Op.load 9 (Operand.tmp 19), type := 9, pos := "law.go:27", after := #[{ on := 15, ground := Ground.data }], guard := none }) (v := ?_) rfl (by kernel_rfl) (by kernel_rfl) (by kernel_rfl) (fun _ _ _ h => h) (Or.inl ⟨by rfl, ?_⟩) (by assumption) ?_
  rotate_left 1
  · intro w hSw
    try dsimp only at hSw
    go_simp
    try with_reducible rfl
  try simp only [Act.put, List.setIfInBounds_toArray, List.set_cons_zero, List.set_cons_succ]
  refine wpAnyH_take (i := 17) (oi := { dst := some 21, op := Op.build 45 #[(0, Operand.tmp 8), (1, Operand.tmp 10), (2, Operand.tmp 12), (3, Operand.tmp 14), (4, Operand.tmp 16), (5, Operand.tmp 18), (6, Operand.tmp 20)], type := 45, pos := "law.go:27", after := #[{ on := 4, ground := Ground.data }, { on := 6, ground := Ground.data }, { on := 8, ground := Ground.data }, { on := 10, ground := Ground.data }, { on := 12, ground := Ground.data }, { on := 14, ground := Ground.data }, { on := 16, ground := Ground.data }], guard := none }) (v := ?_) rfl (by kernel_rfl) (by kernel_rfl) (by kernel_rfl) (fun _ _ _ h => h) (Or.inl ⟨by rfl, ?_⟩) (by assumption) ?_
  rotate_left 1
  · intro w hSw
    try dsimp only at hSw
    go_simp
    try with_reducible rfl
  try simp only [Act.put, List.setIfInBounds_toArray, List.set_cons_zero, List.set_cons_succ]
  refine wpAnyH_take (i := 18) (oi := { dst := some 22, op := Op.load 50 (Operand.tmp 1), type := 50, pos := "law.go:27", after := #[{ on := 19, ground := Ground.gcOnly Departure.lateStores }], guard := none }) (v := ?_) rfl (by kernel_rfl) (by kernel_rfl) (by kernel_rfl) (fun _ _ _ h => h) (Or.inl ⟨by rfl, ?_⟩) (by assumption) ?_
  rotate_left 1
  · intro w hSw
    try dsimp only at hSw
    go_simp
    try with_reducible rfl
  try simp only [Act.put, List.setIfInBounds_toArray, List.set_cons_zero, List.set_cons_succ]
  refine wpAnyH_ready (rs := [19]) (by kernel_rfl) (by simp) ?_
  refine AllReadyH.cons (o := { dst := none, op := Op.store 45 (Operand.tmp 2) (Operand.tmp 21), type := 0, pos := "law.go:27", after := #[{ on := 17, ground := Ground.data }, { on := 0, ground := Ground.phase }, { on := 1, ground := Ground.phase }, { on := 2, ground := Ground.phase }, { on := 3, ground := Ground.phase }, { on := 4, ground := Ground.phase }, { on := 5, ground := Ground.phase }, { on := 6, ground := Ground.phase }, { on := 7, ground := Ground.phase }, { on := 8, ground := Ground.phase }, { on := 9, ground := Ground.phase }, { on := 10, ground := Ground.phase }, { on := 11, ground := Ground.phase }, { on := 12, ground := Ground.phase }, { on := 13, ground := Ground.phase }, { on := 14, ground := Ground.phase }, { on := 15, ground := Ground.phase }, { on := 16, ground := Ground.phase }, { on := 17, ground := Ground.phase }, { on := 18, ground := Ground.textOnly Departure.lateStores }], guard := none }) rfl (fun K hK => ?_) ?_
  rotate_left 1
  · exact AllReadyH.nil
  go_simp
  go_simp
  refine hK.out _ _ (by with_reducible exact ⟨S10, S11, S12, S13, S14, S15, S16, S17⟩) (fun hHeld => ?_)
  clear hK K
  try simp only [Act.put, List.setIfInBounds_toArray, List.set_cons_zero, List.set_cons_succ]
  clear S00 S10 S01 S11 S02 S12 S03 S13 S04 S14 S05 S15 S06 S16 S07 S17 hA d1 d2 f1 f2
  generalize ((((((((wd.setCell ⟨ga + 1, 0, none⟩ (.int .i64 a1)).setCell ⟨ga + 1, 1, none⟩ (.int .i64 a2)).setCell ⟨ga + 1, 2, none⟩ (.bool cmd)).setCell ⟨ga + 1, 3, none⟩ (.int .i64 k)).setCell ⟨ga + 1, 4, none⟩ (.bool pf)).setCell ⟨ga + 1, 5, none⟩ (.int .i64 ns)).setCell ⟨ga + 1, 6, none⟩ (.int .i64 nr)).setCell ⟨ga + 1, 7, none⟩ (.string inf)) = wA at *
  refine wpAnyH_ready (rs := [20]) (by kernel_rfl) (by simp) ?_
  refine AllReadyH.cons (o := { dst := none, op := Op.store 53 (Operand.tmp 3) (Operand.tmp 22), type := 0, pos := "law.go:27", after := #[{ on := 18, ground := Ground.data }, { on := 19, ground := Ground.chain }, { on := 0, ground := Ground.phase }, { on := 1, ground := Ground.phase }, { on := 2, ground := Ground.phase }, { on := 3, ground := Ground.phase }, { on := 4, ground := Ground.phase }, { on := 5, ground := Ground.phase }, { on := 6, ground := Ground.phase }, { on := 7, ground := Ground.phase }, { on := 8, ground := Ground.phase }, { on := 9, ground := Ground.phase }, { on := 10, ground := Ground.phase }, { on := 11, ground := Ground.phase }, { on := 12, ground := Ground.phase }, { on := 13, ground := Ground.phase }, { on := 14, ground := Ground.phase }, { on := 15, ground := Ground.phase }, { on := 16, ground := Ground.phase }, { on := 17, ground := Ground.phase }, { on := 18, ground := Ground.phase }, { on := 19, ground := Ground.phase }], guard := none }) rfl (fun K hK => ?_) ?_
  rotate_left 1
  · exact AllReadyH.nil
  go_simp
  go_simp
  refine hK.out _ _ (by with_reducible exact ⟨S20, S21, S22, S23, S24, S25, S26, S27⟩) (fun hHeld => ?_)
  clear hK K
  try simp only [Act.put, List.setIfInBounds_toArray, List.set_cons_zero, List.set_cons_succ]
  clear S20 S21 S22 S23 S24 S25 S26 S27 hB g2 fg2
  generalize ((((((((wA.setCell ⟨ga + 1 + 1, 0, none⟩ (.int .i64 a1)).setCell ⟨ga + 1 + 1, 1, none⟩ (.int .i64 a2)).setCell ⟨ga + 1 + 1, 2, none⟩ (.bool cmd)).setCell ⟨ga + 1 + 1, 3, none⟩ (.int .i64 k)).setCell ⟨ga + 1 + 1, 4, none⟩ (.bool pf)).setCell ⟨ga + 1 + 1, 5, none⟩ (.int .i64 ns)).setCell ⟨ga + 1 + 1, 6, none⟩ (.int .i64 nr)).setCell ⟨ga + 1 + 1, 7, none⟩ (.string inf)) = wB at *
  refine wpAnyH_done (by kernel_rfl) ?_ _
  go_wp2
  refine bodyPost_ret (v := .tuple #[.agg #[.int .i64 a1, .int .i64 a2, .bool cmd, .int .i64 k, .bool pf, .int .i64 ns, .int .i64 nr, .string inf], .agg #[.int .i64 a1, .int .i64 a2, .bool cmd, .int .i64 k, .bool pf, .int .i64 ns, .int .i64 nr, .string inf]]) (by simp [results, Tryd.results10, go_sem, r1, r2]) rfl ⟨rfl, hR⟩

/-! wakes -/
abbrev wx0 : En := newEn 7 3
abbrev wx1 : En := ⟨3, 4, 64, 0, false, false, false, [], newFl 7, []⟩
abbrev wx2 : En := ⟨3, 5, 64, 0, true, true, false, [], newFl 7, []⟩
abbrev wfr : Fr := ⟨0, 0, false, 8, true, 0, 0, noStr⟩
theorem wk1 : wx0.assign 64 = (wx1, [], 0) := by kernel_rfl
theorem wk2 : wx1.ask 0 noStr = (wx2, [⟨0, ⟨0, 64, true, 4, true, 0, 0, noStr⟩, noStr, 0⟩, Fx.tim 9 200], 0) := by kernel_rfl
theorem wk3 : (wx2.frame wfr).2 = [Fx.of 2 noStr, Fx.tim 10 200, Fx.tim 9 203] := by kernel_rfl
theorem newFl_ok (k : Int) : (newFl k).Ok := Fl.Ok.new k 256
set_option maxRecDepth 100000 in
set_option maxHeartbeats 1600000 in
theorem en_wakes (w0 w : World) (R : HP) (hN : ∀ w', St w0 w' R → NamesAt w') (h : St w0 w R) :
    Calls Tryd.prog 9 #[] w fun e w' => e = .returned (.bool true) ∧ St w0 w' R := by
  go_enter Tryd.func9, Tryd.ntmps9
  go_wp2_with fail
  refine (e_new 7 3 w0 w R h).mono ?_
  rintro r w1 ⟨e, rfl, h1⟩
  have hA := e_assign e wx0 64 (newFl_ok 7) (by decide) (by decide) w0 w1 R h1
  rw [wk1] at hA
  go_wp2_with fail
  refine hA.mono ?_
  rintro r w2 ⟨v2, rfl, h2⟩
  have hB := e_ask e wx1 0 noStr (newFl_ok 7) (by decide) rfl w0 w2 _ h2.f2
  rw [wk2] at hB
  go_wp2_with fail
  refine hB.mono ?_
  rintro r w3 ⟨v3, rfl, h3⟩
  have hC := e_frame e wx2 wfr (newFl_ok 7) (fun _ => by decide) (by decide) w0 w3 _ (hN _ h3.drop.drop.drop) h3.f2
  rw [wk3] at hC
  clear hA hB h1 h2
  go_wp2_with fail
  refine hC.mono ?_
  rintro r w4 ⟨v4, rfl, h4⟩
  have h5 := h4.f3
  rcases h4.l_cells tyFx.len with ⟨h0, _⟩ | ⟨g4, off4, cap4, rfl, hc4, _, hcell4⟩
  · cases h0
  rcases h5.l_cells tyFx.len with ⟨h0, _⟩ | ⟨g3, off3, cap3, rfl, hc3, _, hcell3⟩
  · cases h0
  have d1 : w4.cell? ⟨g3, off3 + 1 + 3, none⟩ = some (.int .i64 4) := hcell3 0 _ rfl 4 _ rfl
  have d2 : w4.cell? ⟨g3, off3 + 11 + 10, none⟩ = some (.int .i64 200) := hcell3 1 _ rfl 10 _ rfl
  have e0 : w4.cell? ⟨g4, off4, none⟩ = some (.int .i64 2) := hcell4 0 _ rfl 0 _ rfl
  have e1 : w4.cell? ⟨g4, off4 + 11, none⟩ = some (.int .i64 10) := hcell4 1 _ rfl 0 _ rfl
  have e2 : w4.cell? ⟨g4, off4 + 22 + 10, none⟩ = some (.int .i64 203) := hcell4 2 _ rfl 10 _ rfl
  clear hcell4 hcell3 hC h3 h
  go_wp2
  go_ret
  exact ⟨rfl, h5.drop.drop.drop.drop⟩

/-! an act -/
structure AcE where
  Do : Int
  ask : Int
  timer : Int
  tei : Int
  data : ByteArray
  fr : Fr
  near : Bool
  N : Int
  M : Int
abbrev AcE.cells (a : AcE) : List Value := [.int .i64 a.Do, .int .i64 a.ask, .int .i64 a.timer, .int .i64 a.tei, .string a.data, .int .i64 a.fr.sapi, .int .i64 a.fr.tei, .bool a.fr.cmd, .int .i64 a.fr.kind, .bool a.fr.pf, .int .i64 a.fr.ns, .int .i64 a.fr.nr, .string a.fr.info, .bool a.near, .int .i64 a.N, .int .i64 a.M]
abbrev TAc : TypeId := 52
abbrev frSh : Sh := .pair (.int .i64) (.pair (.int .i64) (.pair .bool (.pair (.int .i64) (.pair .bool (.pair (.int .i64) (.pair (.int .i64) (.pair .string .unit)))))))
abbrev acSh : Sh := .pair (.int .i64) (.pair (.int .i64) (.pair (.int .i64) (.pair (.int .i64) (.pair .string (.pair frSh (.pair .bool (.pair (.int .i64) (.pair (.int .i64) .unit))))))))
structure Fr.Wf (f : Fr) : Prop where
  info : f.info.size ≤ maxLen
structure AcE.Wf (a : AcE) : Prop where
  timer : (Lit.int .i64 a.timer).wf = true
  Do : (Lit.int .i64 a.Do).wf = true
  N : (Lit.int .i64 a.N).wf = true
  M : (Lit.int .i64 a.M).wf = true
  data : a.data.size ≤ maxLen
  fr : a.fr.Wf
theorem fr_of {w : World} {cs : List Value} (h : frSh.ok w cs) : ∃ f : Fr, cs = f.cells ∧ f.Wf := by
  obtain ⟨_, _, rfl, _, ⟨n1, rfl, _⟩, _, _, rfl, _, ⟨n2, rfl, _⟩, _, _, rfl, _, ⟨b3, rfl⟩, _, _, rfl, _, ⟨n4, rfl, _⟩, _, _, rfl, _, ⟨b5, rfl⟩, _, _, rfl, _, ⟨n6, rfl, _⟩, _, _, rfl, _, ⟨n7, rfl, _⟩, _, _, rfl, _, ⟨s8, rfl, w8⟩, h9⟩ := h
  obtain rfl := h9
  exact ⟨⟨n1, n2, b3, n4, b5, n6, n7, s8⟩, rfl, ⟨w8⟩⟩
theorem ac_of {w : World} {cs : List Value} (h : acSh.ok w cs) : ∃ a : AcE, cs = a.cells ∧ a.Wf := by
  obtain ⟨_, _, rfl, _, ⟨n1, rfl, w1⟩, _, _, rfl, _, ⟨n2, rfl, _⟩, _, _, rfl, _, ⟨n3, rfl, w3⟩, _, _, rfl, _, ⟨n4, rfl, _⟩, _, _, rfl, _, ⟨s5, rfl, w5⟩, _, _, rfl, _, hf, _, _, rfl, _, ⟨b7, rfl⟩, _, _, rfl, _, ⟨n8, rfl, w8⟩, _, _, rfl, _, ⟨n9, rfl, w9⟩, h10⟩ := h
  obtain rfl := h10
  obtain ⟨f, rfl, wf⟩ := fr_of hf
  exact ⟨⟨n1, n2, n3, n4, s5, f, b7, n8, n9⟩, rfl, ⟨w3, w1, w8, w9, w5, wf⟩⟩

/-! of a nil entity nothing is there -/
theorem e_nil_ask (a : Int) (d : ByteArray) (w : World) : Calls Tryd.prog 6 #[.pointer none, .int .i64 a, .string d] w fun e w' => e = .returned (.tuple #[.slice none 0 0, .int .i64 1]) ∧ w = w' := by
  go_enter Tryd.func6, Tryd.ntmps6
  go_wp2
  go_ret2
  exact ⟨rfl, rfl⟩
theorem e_nil_assign (a : Int) (w : World) : Calls Tryd.prog 8 #[.pointer none, .int .i64 a] w fun e w' => e = .returned (.tuple #[.slice none 0 0, .int .i64 1]) ∧ w = w' := by
  go_enter Tryd.func8, Tryd.ntmps8
  go_wp2
  go_ret2
  exact ⟨rfl, rfl⟩
theorem e_nil_remove (w : World) : Calls Tryd.prog 11 #[.pointer none] w fun e w' => e = .returned (.tuple #[.slice none 0 0, .int .i64 1]) ∧ w = w' := by
  go_enter Tryd.func11, Tryd.ntmps11
  go_wp2
  go_ret2
  exact ⟨rfl, rfl⟩
theorem e_nil_timeout (a : Int) (w : World) : Calls Tryd.prog 13 #[.pointer none, .int .i64 a] w fun e w' => e = .returned (.slice none 0 0) ∧ w = w' := by
  go_enter Tryd.func13, Tryd.ntmps13
  go_wp2
  go_ret
  exact ⟨rfl, rfl⟩
theorem e_nil_frame (f : Fr) (w0 w : World) (R : HP) (h : St w0 w R) : Calls Tryd.prog 12 #[.pointer none, .agg f.cells.toArray] w fun e w' => e = .returned (.slice none 0 0) ∧ St w0 w' R := by
  have h2 := h.alloc (.cells f.cells.toArray TFr)
  go_enter Tryd.func12, Tryd.ntmps12
  go_wp2
  go_ret
  exact ⟨rfl, h2.drop⟩
theorem e_nil_view (w0 w : World) (R : HP) (h : St w0 w R) : Calls Tryd.prog 7 #[.pointer none] w fun e w' => e = .returned (.agg zeroView) ∧ St w0 w' R := by
  have h2 := h.alloc (.cells zeroView 36)
  go_enter Tryd.func7, Tryd.ntmps7
  go_upto_region 2 with fail
  generalize w.alloc _ = wa at *
  generalize w.heap.size = ga at *
  have c := h2.cell
  have f := h2.free
  have h9 := (((((((((((((((h2.set 0 (.int .i64 0)).set 1 (.int .i64 0)).set 2 (.int .i64 0)).set 3 (.bool false)).set 4 (.bool false)).set 5 (.bool false)).set 6 (.int .i64 0)).set 7 (.int .i64 0)).set 8 (.int .i64 0)).set 9 (.int .i64 0)).set 10 (.bool false)).set 11 (.bool false)).set 12 (.bool false)).set 13 (.int .i64 0)).set 14 (.int .i64 0))
  rw [view_set] at h9
  go_wp2
  generalize (((((((((((((((wa.setCell ⟨ga, 0, none⟩ (.int .i64 0)).setCell ⟨ga, 1, none⟩ (.int .i64 0)).setCell ⟨ga, 2, none⟩ (.int .i64 0)).setCell ⟨ga, 3, none⟩ (.bool false)).setCell ⟨ga, 4, none⟩ (.bool false)).setCell ⟨ga, 5, none⟩ (.bool false)).setCell ⟨ga, 6, none⟩ (.int .i64 0)).setCell ⟨ga, 7, none⟩ (.int .i64 0)).setCell ⟨ga, 8, none⟩ (.int .i64 0)).setCell ⟨ga, 9, none⟩ (.int .i64 0)).setCell ⟨ga, 10, none⟩ (.bool false)).setCell ⟨ga, 11, none⟩ (.bool false)).setCell ⟨ga, 12, none⟩ (.bool false)).setCell ⟨ga, 13, none⟩ (.int .i64 0)).setCell ⟨ga, 14, none⟩ (.int .i64 0)) = w9 at *
  have c9 := h9.cell
  refine bodyPost_ret (v := .agg zeroView) (by simp [results, Tryd.results7, go_sem, c9]) rfl ⟨rfl, h9.drop⟩
end Go.Proofs.YtoophfokbioaaaaDoor
