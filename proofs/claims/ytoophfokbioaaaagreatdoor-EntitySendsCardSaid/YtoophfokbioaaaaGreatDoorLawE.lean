/- The entity's laws: what all of them use: a frame of both, the same frames, the same effects. -/
import Derived.Test.YtoophfokbioaaaaGreatDoorRenJ
import Derived.Test.YtoophfokbioaaaaGreatDoorEntY
namespace Go.Proofs.YtoophfokbioaaaaGreatDoor
open Go.RowKit


def AcE.frame (a : AcE) (x : En) : Fr := if a.near = true then { a.fr with nr := ((x.fl.va : Int) + a.N % 128) % 128, ns := ((x.fl.vr : Int) + a.M % 128) % 128 } else a.fr
set_option maxRecDepth 100000 in
set_option maxHeartbeats 1600000 in
theorem l_frameOf (r : Nat) (x : En) (a : AcE) (ok : x.fl.Ok) (w0 w : World) (R : HP) (h : St w0 w (RnAt r x * R)) :
    Calls Tryz.prog 25 #[ptr r, .agg a.cells.toArray] w fun e w' => e = .returned (.agg (a.frame x).cells.toArray) ∧ St w0 w' (RnAt r x * R) := by
  obtain ⟨Do, ask, timer, tei, data, ⟨a1, a2, cmd, k, pf, ns, nr, inf⟩, near, N, M⟩ := a
  have h1 := h.alloc (.cells (AcE.cells ⟨Do, ask, timer, tei, data, ⟨a1, a2, cmd, k, pf, ns, nr, inf⟩, near, N, M⟩).toArray TAc)
  have h2 := h1.alloc (.cells (Fr.cells .none).toArray TLf)
  have h3 := h2.alloc (.cells (Fr.cells ⟨a1, a2, cmd, k, pf, ns, nr, inf⟩).toArray TLf)
  clear h h1 h2
  unfold AcE.frame
  simp only []
  cases near with
  | false =>
    rw [if_neg (by simp)]
    go_enter Tryz.func25, Tryz.ntmps25
    go_upto_region 2 with fail
    simp only [World.size_alloc] at *
    generalize ((w.alloc _).alloc _).alloc _ = wa at *
    generalize w.heap.size = ga at *
    have d := h3.f3.cell
    go_upto_region 4 with fail
    clear d
    generalize ga + 1 + 1 = gf at *
    generalize ga + 1 = gt at *
    have e1 := (h3).cell
    have e2 := (h3).f2.cell
    have f2 := (h3).f2.free
    have h9 := (((((((((h3).f2.set 0 (.int .i64 a1)).set 1 (.int .i64 a2)).set 2 (.bool cmd)).set 3 (.int .i64 k)).set 4 (.bool pf)).set 5 (.int .i64 ns)).set 6 (.int .i64 nr)).set 7 (.string inf))
    rw [set8] at h9
    go_wp2
    generalize hw9 : (((((((((wa.setCell ⟨gt, 0, none⟩ (.int .i64 a1)).setCell ⟨gt, 1, none⟩ (.int .i64 a2)).setCell ⟨gt, 2, none⟩ (.bool cmd)).setCell ⟨gt, 3, none⟩ (.int .i64 k)).setCell ⟨gt, 4, none⟩ (.bool pf)).setCell ⟨gt, 5, none⟩ (.int .i64 ns)).setCell ⟨gt, 6, none⟩ (.int .i64 nr)).setCell ⟨gt, 7, none⟩ (.string inf))) = w9 at *
    clear hw9
    have c9 := h9.cell
    refine bodyPost_ret (v := .agg #[.int .i64 a1, .int .i64 a2, .bool cmd, .int .i64 k, .bool pf, .int .i64 ns, .int .i64 nr, .string inf]) (by simp [results, Tryz.results25, go_sem, c9]) rfl ⟨rfl, h9.drop.drop.drop⟩
  | true =>
    rw [if_pos rfl]
    obtain ⟨va1, hva1⟩ : ∃ v : Int, (x.fl.va : Int) + N % 128 = v := ⟨_, rfl⟩
    obtain ⟨vr1, hvr1⟩ : ∃ v : Int, (x.fl.vr : Int) + M % 128 = v := ⟨_, rfl⟩
    have hN0 := Int.emod_nonneg N (show (128 : Int) ≠ 0 by decide)
    have hN1 := Int.emod_lt_of_pos N (show (0 : Int) < 128 by decide)
    have hM0 := Int.emod_nonneg M (show (128 : Int) ≠ 0 by decide)
    have hM1 := Int.emod_lt_of_pos M (show (0 : Int) < 128 by decide)
    have oa := ok.a1
    have orr := ok.r1
    have wa1 : IntKind.i64.wrap (x.fl.va + N % 128) = va1 := by rw [IntKind.wrap_i64, hva1]; omega
    have wr1 : IntKind.i64.wrap (x.fl.vr + M % 128) = vr1 := by rw [IntKind.wrap_i64, hvr1]; omega
    have bN := i64_and127 N
    have bM := i64_and127 M
    have bva := i64_and127 va1
    have bvr := i64_and127 vr1
    rw [hva1, hvr1]
    clear hva1 hvr1 hN0 hN1 hM0 hM1 oa orr ok
    go_enter Tryz.func25, Tryz.ntmps25
    go_upto_region 2 with fail
    simp only [World.size_alloc] at *
    generalize ((w.alloc _).alloc _).alloc _ = wa at *
    generalize w.heap.size = ga at *
    have d := h3.f3.cell
    generalize ga + 1 + 1 = gf at *
    generalize ga + 1 = gt at *
    obtain ⟨fp, uv, ov, h4⟩ := h3.f4.n_open
    obtain ⟨qp, h5⟩ := h4.f3.f_open
    have H : St w0 wa (blk gf (.cells #[.int .i64 a1, .int .i64 a2, .bool cmd, .int .i64 k, .bool pf, .int .i64 ns, .int .i64 nr, .string inf] TLf (0, 0)) * (blk fp (.cells (x.fl.cells qp) TG (0, 0)) * (blk r (.cells (x.rcells fp uv ov) TRe (0, 0)) * (blk ga (.cells (AcE.cells ⟨Do, ask, timer, tei, data, ⟨a1, a2, cmd, k, pf, ns, nr, inf⟩, true, N, M⟩).toArray TAc (0, 0)) * (blk gt (.cells (Fr.cells .none).toArray TLf (0, 0)) * (QAt TR qp x.fl.q * (LAt TRx 11 Fx.cells ov x.out * (Row 9 1 uv x.units.length (strs x.units) * R)))))))) := h5.eq (by ac_rfl)
    clear h4 h5
    go_upto_region 3 with fail
    clear d
    have p1 := (H.drew.f3.cell 8).trans (show _ = some (ptr fp) from rfl)
    have p2 := (H.drew.f2.cell 1).trans (show _ = some (Value.int .i64 x.fl.va) from rfl)
    have p3 := (H.drew.f2.cell 2).trans (show _ = some (Value.int .i64 x.fl.vr) from rfl)
    have p4 := (H.drew.f4.cell 14).trans (show _ = some (Value.int .i64 N) from rfl)
    have p5 := (H.drew.f4.cell 15).trans (show _ = some (Value.int .i64 M) from rfl)
    have cf := H.drew.cell
    have ff := H.drew.free
    have H1 := H.drew.set 6 (.int .i64 (va1 % 128))
    have q1 := (H1.f3.cell 8).trans (show _ = some (ptr fp) from rfl)
    have q2 := (H1.f2.cell 1).trans (show _ = some (Value.int .i64 x.fl.va) from rfl)
    have q3 := (H1.f2.cell 2).trans (show _ = some (Value.int .i64 x.fl.vr) from rfl)
    have q4 := (H1.f4.cell 14).trans (show _ = some (Value.int .i64 N) from rfl)
    have q5 := (H1.f4.cell 15).trans (show _ = some (Value.int .i64 M) from rfl)
    have cf1 := H1.cell
    have ff1 := H1.free
    have H2 := H1.set 5 (.int .i64 (vr1 % 128))
    have s1 := (H2.f3.cell 8).trans (show _ = some (ptr fp) from rfl)
    have s2 := (H2.f2.cell 1).trans (show _ = some (Value.int .i64 x.fl.va) from rfl)
    have s3 := (H2.f2.cell 2).trans (show _ = some (Value.int .i64 x.fl.vr) from rfl)
    have s4 := (H2.f4.cell 14).trans (show _ = some (Value.int .i64 N) from rfl)
    have s5 := (H2.f4.cell 15).trans (show _ = some (Value.int .i64 M) from rfl)
    have h6 : St w0 _ (blk gf (.cells #[.int .i64 a1, .int .i64 a2, .bool cmd, .int .i64 k, .bool pf, .int .i64 (vr1 % 128), .int .i64 (va1 % 128), .string inf] TLf (0, 0)) * _) := (h3.drew.set 6 (.int .i64 (va1 % 128))).set 5 (.int .i64 (vr1 % 128))
    refine wp_region_held_drew (S := fun wx => wx.cell? ⟨r, 8, none⟩ = some (ptr fp) ∧ wx.cell? ⟨fp, 1, none⟩ = some (.int .i64 x.fl.va) ∧ wx.cell? ⟨fp, 2, none⟩ = some (.int .i64 x.fl.vr) ∧ wx.cell? ⟨ga, 14, none⟩ = some (.int .i64 N) ∧ wx.cell? ⟨ga, 15, none⟩ = some (.int .i64 M)) (by kernel_rfl) ?_ (fun hHeld => ?_)
    · with_reducible exact ⟨p1, p2, p3, p4, p5⟩
    clear H H1 H2 h3
    generalize wa.drew = wd at *
    refine wpAnyH_take (i := 0) (oi := { dst := some 10, op := Op.move (Operand.tmp 0), type := 27, pos := "law.go:48", after := #[], guard := none }) (v := ?_) rfl (by kernel_rfl) (by kernel_rfl) (by kernel_rfl) (fun _ _ _ h => h) (Or.inl ⟨by rfl, ?_⟩) (by assumption) ?_
    rotate_left 1
    · intro w hSw
      try dsimp only at hSw
      go_simp
      try with_reducible rfl
    try simp only [Act.put, List.setIfInBounds_toArray, List.set_cons_zero, List.set_cons_succ]
    refine wpAnyH_take (i := 1) (oi := { dst := some 11, op := Op.nilCheck (Operand.tmp 10), type := 0, pos := "law.go:48", after := #[{ on := 0, ground := Ground.data }], guard := none }) (v := ?_) rfl (by kernel_rfl) (by kernel_rfl) (by kernel_rfl) (fun _ _ _ h => h) (Or.inl ⟨by rfl, ?_⟩) (by assumption) ?_
    rotate_left 1
    · intro w hSw
      try dsimp only at hSw
      go_simp
      try with_reducible rfl
    try simp only [Act.put, List.setIfInBounds_toArray, List.set_cons_zero, List.set_cons_succ]
    refine wpAnyH_take (i := 2) (oi := { dst := some 12, op := Op.fieldAddr 85 (Operand.tmp 11) 8, type := 0, pos := "law.go:48", after := #[{ on := 1, ground := Ground.data }], guard := none }) (v := ?_) rfl (by kernel_rfl) (by kernel_rfl) (by kernel_rfl) (fun _ _ _ h => h) (Or.inl ⟨by rfl, ?_⟩) (by assumption) ?_
    rotate_left 1
    · intro w hSw
      try dsimp only at hSw
      go_simp
      try with_reducible rfl
    try simp only [Act.put, List.setIfInBounds_toArray, List.set_cons_zero, List.set_cons_succ]
    refine wpAnyH_take (i := 3) (oi := { dst := some 13, op := Op.load 81 (Operand.tmp 12), type := 81, pos := "law.go:48", after := #[{ on := 2, ground := Ground.data }], guard := none }) (v := ?_) rfl (by kernel_rfl) (by kernel_rfl) (by kernel_rfl) (fun _ _ _ h => h) (Or.inl ⟨by rfl, ?_⟩) (by assumption) ?_
    rotate_left 1
    · intro w hSw
      try dsimp only at hSw
      go_simp
      try with_reducible rfl
    try simp only [Act.put, List.setIfInBounds_toArray, List.set_cons_zero, List.set_cons_succ]
    refine wpAnyH_take (i := 4) (oi := { dst := some 14, op := Op.nilCheck (Operand.tmp 13), type := 0, pos := "law.go:48", after := #[{ on := 3, ground := Ground.data }], guard := none }) (v := ?_) rfl (by kernel_rfl) (by kernel_rfl) (by kernel_rfl) (fun _ _ _ h => h) (Or.inl ⟨by rfl, ?_⟩) (by assumption) ?_
    rotate_left 1
    · intro w hSw
      try dsimp only at hSw
      go_simp
      try with_reducible rfl
    try simp only [Act.put, List.setIfInBounds_toArray, List.set_cons_zero, List.set_cons_succ]
    refine wpAnyH_take (i := 5) (oi := { dst := some 15, op := Op.fieldAddr 88 (Operand.tmp 14) 1, type := 0, pos := "law.go:48", after := #[{ on := 4, ground := Ground.data }], guard := none }) (v := ?_) rfl (by kernel_rfl) (by kernel_rfl) (by kernel_rfl) (fun _ _ _ h => h) (Or.inl ⟨by rfl, ?_⟩) (by assumption) ?_
    rotate_left 1
    · intro w hSw
      try dsimp only at hSw
      go_simp
      try with_reducible rfl
    try simp only [Act.put, List.setIfInBounds_toArray, List.set_cons_zero, List.set_cons_succ]
    refine wpAnyH_take (i := 6) (oi := { dst := some 16, op := Op.load 3 (Operand.tmp 15), type := 3, pos := "law.go:48", after := #[{ on := 5, ground := Ground.data }], guard := none }) (v := ?_) rfl (by kernel_rfl) (by kernel_rfl) (by kernel_rfl) (fun _ _ _ h => h) (Or.inl ⟨by rfl, ?_⟩) (by assumption) ?_
    rotate_left 1
    · intro w hSw
      try dsimp only at hSw
      go_simp
      try with_reducible rfl
    try simp only [Act.put, List.setIfInBounds_toArray, List.set_cons_zero, List.set_cons_succ]
    refine wpAnyH_take (i := 7) (oi := { dst := some 17, op := Op.fieldAddr 34 (Operand.tmp 3) 7, type := 0, pos := "law.go:48", after := #[], guard := none }) (v := ?_) rfl (by kernel_rfl) (by kernel_rfl) (by kernel_rfl) (fun _ _ _ h => h) (Or.inl ⟨by rfl, ?_⟩) (by assumption) ?_
    rotate_left 1
    · intro w hSw
      try dsimp only at hSw
      go_simp
      try with_reducible rfl
    try simp only [Act.put, List.setIfInBounds_toArray, List.set_cons_zero, List.set_cons_succ]
    refine wpAnyH_take (i := 8) (oi := { dst := some 18, op := Op.load 3 (Operand.tmp 17), type := 3, pos := "law.go:48", after := #[{ on := 7, ground := Ground.data }], guard := none }) (v := ?_) rfl (by kernel_rfl) (by kernel_rfl) (by kernel_rfl) (fun _ _ _ h => h) (Or.inl ⟨by rfl, ?_⟩) (by assumption) ?_
    rotate_left 1
    · intro w hSw
      try dsimp only at hSw
      go_simp
      try with_reducible rfl
    try simp only [Act.put, List.setIfInBounds_toArray, List.set_cons_zero, List.set_cons_succ]
    refine wpAnyH_take (i := 9) (oi := { dst := some 19, op := Op.binOp BinOp.and 3 (Operand.tmp 18) (Operand.const (Value.int IntKind.i64 127)) 3, type := 3, pos := "law.go:48", after := #[{ on := 8, ground := Ground.data }], guard := none }) (v := ?_) rfl (by kernel_rfl) (by kernel_rfl) (by kernel_rfl) (fun _ _ _ h => h) (Or.inl ⟨by rfl, ?_⟩) (by assumption) ?_
    rotate_left 1
    · intro w hSw
      try dsimp only at hSw
      go_simp
      try with_reducible rfl
    try simp only [Act.put, List.setIfInBounds_toArray, List.set_cons_zero, List.set_cons_succ]
    refine wpAnyH_take (i := 10) (oi := { dst := some 20, op := Op.binOp BinOp.add 3 (Operand.tmp 16) (Operand.tmp 19) 3, type := 3, pos := "law.go:48", after := #[{ on := 6, ground := Ground.data }, { on := 9, ground := Ground.data }], guard := none }) (v := ?_) rfl (by kernel_rfl) (by kernel_rfl) (by kernel_rfl) (fun _ _ _ h => h) (Or.inl ⟨by rfl, ?_⟩) (by assumption) ?_
    rotate_left 1
    · intro w hSw
      try dsimp only at hSw
      go_simp
      try with_reducible rfl
    try simp only [Act.put, List.setIfInBounds_toArray, List.set_cons_zero, List.set_cons_succ]
    refine wpAnyH_take (i := 11) (oi := { dst := some 21, op := Op.binOp BinOp.and 3 (Operand.tmp 20) (Operand.const (Value.int IntKind.i64 127)) 3, type := 3, pos := "law.go:48", after := #[{ on := 10, ground := Ground.data }], guard := none }) (v := ?_) rfl (by kernel_rfl) (by kernel_rfl) (by kernel_rfl) (fun _ _ _ h => h) (Or.inl ⟨by rfl, ?_⟩) (by assumption) ?_
    rotate_left 1
    · intro w hSw
      try dsimp only at hSw
      go_simp
      try with_reducible rfl
    try simp only [Act.put, List.setIfInBounds_toArray, List.set_cons_zero, List.set_cons_succ]
    refine wpAnyH_take (i := 12) (oi := { dst := some 22, op := Op.move (Operand.tmp 0), type := 27, pos := "law.go:48", after := #[{ on := 25, ground := Ground.gcOnly Departure.lateStores }], guard := none }) (v := ?_) rfl (by kernel_rfl) (by kernel_rfl) (by kernel_rfl) (fun _ _ _ h => h) (Or.inl ⟨by rfl, ?_⟩) (by assumption) ?_
    rotate_left 1
    · intro w hSw
      try dsimp only at hSw
      go_simp
      try with_reducible rfl
    try simp only [Act.put, List.setIfInBounds_toArray, List.set_cons_zero, List.set_cons_succ]
    refine wpAnyH_take (i := 13) (oi := { dst := some 23, op := Op.nilCheck (Operand.tmp 22), type := 0, pos := "law.go:48", after := #[{ on := 12, ground := Ground.data }, { on := 25, ground := Ground.gcOnly Departure.lateStores }], guard := none }) (v := ?_) rfl (by kernel_rfl) (by kernel_rfl) (by kernel_rfl) (fun _ _ _ h => h) (Or.inl ⟨by rfl, ?_⟩) (by assumption) ?_
    rotate_left 1
    · intro w hSw
      try dsimp only at hSw
      go_simp
      try with_reducible rfl
    try simp only [Act.put, List.setIfInBounds_toArray, List.set_cons_zero, List.set_cons_succ]
    refine wpAnyH_take (i := 14) (oi := { dst := some 24, op := Op.fieldAddr 85 (Operand.tmp 23) 8, type := 0, pos := "law.go:48", after := #[{ on := 13, ground := Ground.data }, { on := 25, ground := Ground.gcOnly Departure.lateStores }], guard := none }) (v := ?_) rfl (by kernel_rfl) (by kernel_rfl) (by kernel_rfl) (fun _ _ _ h => h) (Or.inl ⟨by rfl, ?_⟩) (by assumption) ?_
    rotate_left 1
    · intro w hSw
      try dsimp only at hSw
      go_simp
      try with_reducible rfl
    try simp only [Act.put, List.setIfInBounds_toArray, List.set_cons_zero, List.set_cons_succ]
    refine wpAnyH_take (i := 15) (oi := { dst := some 25, op := Op.load 81 (Operand.tmp 24), type := 81, pos := "law.go:48", after := #[{ on := 14, ground := Ground.data }, { on := 25, ground := Ground.gcOnly Departure.lateStores }], guard := none }) (v := ?_) rfl (by kernel_rfl) (by kernel_rfl) (by kernel_rfl) (fun _ _ _ h => h) (Or.inl ⟨by rfl, ?_⟩) (by assumption) ?_
    rotate_left 1
    · intro w hSw
      try dsimp only at hSw
      go_simp
      try with_reducible rfl
    try simp only [Act.put, List.setIfInBounds_toArray, List.set_cons_zero, List.set_cons_succ]
    refine wpAnyH_take (i := 16) (oi := { dst := some 26, op := Op.nilCheck (Operand.tmp 25), type := 0, pos := "law.go:48", after := #[{ on := 15, ground := Ground.data }, { on := 25, ground := Ground.gcOnly Departure.lateStores }], guard := none }) (v := ?_) rfl (by kernel_rfl) (by kernel_rfl) (by kernel_rfl) (fun _ _ _ h => h) (Or.inl ⟨by rfl, ?_⟩) (by assumption) ?_
    rotate_left 1
    · intro w hSw
      try dsimp only at hSw
      go_simp
      try with_reducible rfl
    try simp only [Act.put, List.setIfInBounds_toArray, List.set_cons_zero, List.set_cons_succ]
    refine wpAnyH_take (i := 17) (oi := { dst := some 27, op := Op.fieldAddr 88 (Operand.tmp 26) 2, type := 0, pos := "law.go:48", after := #[{ on := 16, ground := Ground.data }, { on := 25, ground := Ground.gcOnly Departure.lateStores }], guard := none }) (v := ?_) rfl (by kernel_rfl) (by kernel_rfl) (by kernel_rfl) (fun _ _ _ h => h) (Or.inl ⟨by rfl, ?_⟩) (by assumption) ?_
    rotate_left 1
    · intro w hSw
      try dsimp only at hSw
      go_simp
      try with_reducible rfl
    try simp only [Act.put, List.setIfInBounds_toArray, List.set_cons_zero, List.set_cons_succ]
    refine wpAnyH_take (i := 18) (oi := { dst := some 28, op := Op.load 3 (Operand.tmp 27), type := 3, pos := "law.go:48", after := #[{ on := 17, ground := Ground.data }, { on := 25, ground := Ground.gcOnly Departure.lateStores }], guard := none }) (v := ?_) rfl (by kernel_rfl) (by kernel_rfl) (by kernel_rfl) (fun _ _ _ h => h) (Or.inl ⟨by rfl, ?_⟩) (by assumption) ?_
    rotate_left 1
    · intro w hSw
      try dsimp only at hSw
      go_simp
      try with_reducible rfl
    try simp only [Act.put, List.setIfInBounds_toArray, List.set_cons_zero, List.set_cons_succ]
    refine wpAnyH_take (i := 19) (oi := { dst := some 29, op := Op.fieldAddr 34 (Operand.tmp 3) 8, type := 0, pos := "law.go:48", after := #[{ on := 25, ground := Ground.gcOnly Departure.lateStores }], guard := none }) (v := ?_) rfl (by kernel_rfl) (by kernel_rfl) (by kernel_rfl) (fun _ _ _ h => h) (Or.inl ⟨by rfl, ?_⟩) (by assumption) ?_
    rotate_left 1
    · intro w hSw
      try dsimp only at hSw
      go_simp
      try with_reducible rfl
    try simp only [Act.put, List.setIfInBounds_toArray, List.set_cons_zero, List.set_cons_succ]
    refine wpAnyH_take (i := 20) (oi := { dst := some 30, op := Op.load 3 (Operand.tmp 29), type := 3, pos := "law.go:48", after := #[{ on := 19, ground := Ground.data }, { on := 25, ground := Ground.gcOnly Departure.lateStores }], guard := none }) (v := ?_) rfl (by kernel_rfl) (by kernel_rfl) (by kernel_rfl) (fun _ _ _ h => h) (Or.inl ⟨by rfl, ?_⟩) (by assumption) ?_
    rotate_left 1
    · intro w hSw
      try dsimp only at hSw
      go_simp
      try with_reducible rfl
    try simp only [Act.put, List.setIfInBounds_toArray, List.set_cons_zero, List.set_cons_succ]
    refine wpAnyH_take (i := 21) (oi := { dst := some 31, op := Op.binOp BinOp.and 3 (Operand.tmp 30) (Operand.const (Value.int IntKind.i64 127)) 3, type := 3, pos := "law.go:48", after := #[{ on := 20, ground := Ground.data }, { on := 25, ground := Ground.gcOnly Departure.lateStores }], guard := none }) (v := ?_) rfl (by kernel_rfl) (by kernel_rfl) (by kernel_rfl) (fun _ _ _ h => h) (Or.inl ⟨by rfl, ?_⟩) (by assumption) ?_
    rotate_left 1
    · intro w hSw
      try dsimp only at hSw
      go_simp
      try with_reducible rfl
    try simp only [Act.put, List.setIfInBounds_toArray, List.set_cons_zero, List.set_cons_succ]
    refine wpAnyH_take (i := 22) (oi := { dst := some 32, op := Op.binOp BinOp.add 3 (Operand.tmp 28) (Operand.tmp 31) 3, type := 3, pos := "law.go:48", after := #[{ on := 18, ground := Ground.data }, { on := 21, ground := Ground.data }, { on := 25, ground := Ground.gcOnly Departure.lateStores }], guard := none }) (v := ?_) rfl (by kernel_rfl) (by kernel_rfl) (by kernel_rfl) (fun _ _ _ h => h) (Or.inl ⟨by rfl, ?_⟩) (by assumption) ?_
    rotate_left 1
    · intro w hSw
      try dsimp only at hSw
      go_simp
      try with_reducible rfl
    try simp only [Act.put, List.setIfInBounds_toArray, List.set_cons_zero, List.set_cons_succ]
    refine wpAnyH_take (i := 23) (oi := { dst := some 33, op := Op.binOp BinOp.and 3 (Operand.tmp 32) (Operand.const (Value.int IntKind.i64 127)) 3, type := 3, pos := "law.go:48", after := #[{ on := 22, ground := Ground.data }, { on := 25, ground := Ground.gcOnly Departure.lateStores }], guard := none }) (v := ?_) rfl (by kernel_rfl) (by kernel_rfl) (by kernel_rfl) (fun _ _ _ h => h) (Or.inl ⟨by rfl, ?_⟩) (by assumption) ?_
    rotate_left 1
    · intro w hSw
      try dsimp only at hSw
      go_simp
      try with_reducible rfl
    try simp only [Act.put, List.setIfInBounds_toArray, List.set_cons_zero, List.set_cons_succ]
    refine wpAnyH_take (i := 24) (oi := { dst := some 34, op := Op.fieldAddr 32 (Operand.tmp 5) 6, type := 0, pos := "law.go:48", after := #[{ on := 0, ground := Ground.phase }, { on := 1, ground := Ground.phase }, { on := 2, ground := Ground.phase }, { on := 3, ground := Ground.phase }, { on := 4, ground := Ground.phase }, { on := 5, ground := Ground.phase }, { on := 6, ground := Ground.phase }, { on := 7, ground := Ground.phase }, { on := 8, ground := Ground.phase }, { on := 9, ground := Ground.phase }, { on := 10, ground := Ground.phase }, { on := 11, ground := Ground.phase }, { on := 12, ground := Ground.textOnly Departure.lateStores }, { on := 13, ground := Ground.textOnly Departure.lateStores }, { on := 14, ground := Ground.textOnly Departure.lateStores }, { on := 15, ground := Ground.textOnly Departure.lateStores }, { on := 16, ground := Ground.textOnly Departure.lateStores }, { on := 17, ground := Ground.textOnly Departure.lateStores }, { on := 18, ground := Ground.textOnly Departure.lateStores }, { on := 19, ground := Ground.textOnly Departure.lateStores }, { on := 20, ground := Ground.textOnly Departure.lateStores }, { on := 21, ground := Ground.textOnly Departure.lateStores }, { on := 22, ground := Ground.textOnly Departure.lateStores }, { on := 23, ground := Ground.textOnly Departure.lateStores }], guard := none }) (v := ?_) rfl (by kernel_rfl) (by kernel_rfl) (by kernel_rfl) (fun _ _ _ h => h) (Or.inl ⟨by rfl, ?_⟩) (by assumption) ?_
    rotate_left 1
    · intro w hSw
      try dsimp only at hSw
      go_simp
      try with_reducible rfl
    try simp only [Act.put, List.setIfInBounds_toArray, List.set_cons_zero, List.set_cons_succ]
    refine wpAnyH_ready (rs := [25]) (by kernel_rfl) (by simp) ?_
    refine AllReadyH.cons (o := { dst := none, op := Op.store 3 (Operand.tmp 34) (Operand.tmp 21), type := 0, pos := "law.go:48", after := #[{ on := 24, ground := Ground.data }, { on := 11, ground := Ground.data }, { on := 0, ground := Ground.phase }, { on := 1, ground := Ground.phase }, { on := 2, ground := Ground.phase }, { on := 3, ground := Ground.phase }, { on := 4, ground := Ground.phase }, { on := 5, ground := Ground.phase }, { on := 6, ground := Ground.phase }, { on := 7, ground := Ground.phase }, { on := 8, ground := Ground.phase }, { on := 9, ground := Ground.phase }, { on := 10, ground := Ground.phase }, { on := 11, ground := Ground.phase }, { on := 12, ground := Ground.textOnly Departure.lateStores }, { on := 13, ground := Ground.textOnly Departure.lateStores }, { on := 14, ground := Ground.textOnly Departure.lateStores }, { on := 15, ground := Ground.textOnly Departure.lateStores }, { on := 16, ground := Ground.textOnly Departure.lateStores }, { on := 17, ground := Ground.textOnly Departure.lateStores }, { on := 18, ground := Ground.textOnly Departure.lateStores }, { on := 19, ground := Ground.textOnly Departure.lateStores }, { on := 20, ground := Ground.textOnly Departure.lateStores }, { on := 21, ground := Ground.textOnly Departure.lateStores }, { on := 22, ground := Ground.textOnly Departure.lateStores }, { on := 23, ground := Ground.textOnly Departure.lateStores }], guard := none }) rfl (fun K hK => ?_) ?_
    rotate_left 1
    · exact AllReadyH.nil
    go_simp
    go_simp
    refine hK.out _ _ (by with_reducible exact ⟨q1, q2, q3, q4, q5⟩) (fun hHeld => ?_)
    clear hK K
    try simp only [Act.put, List.setIfInBounds_toArray, List.set_cons_zero, List.set_cons_succ]
    clear p1 p2 p3 p4 p5 q1 q2 q3 q4 q5 cf ff
    generalize wd.setCell _ _ = we at *
    refine wpAnyH_take (i := 26) (oi := { dst := some 35, op := Op.fieldAddr 32 (Operand.tmp 5) 5, type := 0, pos := "law.go:48", after := #[{ on := 0, ground := Ground.phase }, { on := 1, ground := Ground.phase }, { on := 2, ground := Ground.phase }, { on := 3, ground := Ground.phase }, { on := 4, ground := Ground.phase }, { on := 5, ground := Ground.phase }, { on := 6, ground := Ground.phase }, { on := 7, ground := Ground.phase }, { on := 8, ground := Ground.phase }, { on := 9, ground := Ground.phase }, { on := 10, ground := Ground.phase }, { on := 11, ground := Ground.phase }, { on := 12, ground := Ground.phase }, { on := 13, ground := Ground.phase }, { on := 14, ground := Ground.phase }, { on := 15, ground := Ground.phase }, { on := 16, ground := Ground.phase }, { on := 17, ground := Ground.phase }, { on := 18, ground := Ground.phase }, { on := 19, ground := Ground.phase }, { on := 20, ground := Ground.phase }, { on := 21, ground := Ground.phase }, { on := 22, ground := Ground.phase }, { on := 23, ground := Ground.phase }, { on := 24, ground := Ground.phase }, { on := 25, ground := Ground.phase }], guard := none }) (v := ?_) rfl (by kernel_rfl) (by kernel_rfl) (by kernel_rfl) (fun _ _ _ h => h) (Or.inl ⟨by rfl, ?_⟩) (by assumption) ?_
    rotate_left 1
    · intro w hSw
      try dsimp only at hSw
      go_simp
      try with_reducible rfl
    try simp only [Act.put, List.setIfInBounds_toArray, List.set_cons_zero, List.set_cons_succ]
    refine wpAnyH_ready (rs := [27]) (by kernel_rfl) (by simp) ?_
    refine AllReadyH.cons (o := { dst := none, op := Op.store 3 (Operand.tmp 35) (Operand.tmp 33), type := 0, pos := "law.go:48", after := #[{ on := 26, ground := Ground.data }, { on := 23, ground := Ground.data }, { on := 25, ground := Ground.chain }, { on := 0, ground := Ground.phase }, { on := 1, ground := Ground.phase }, { on := 2, ground := Ground.phase }, { on := 3, ground := Ground.phase }, { on := 4, ground := Ground.phase }, { on := 5, ground := Ground.phase }, { on := 6, ground := Ground.phase }, { on := 7, ground := Ground.phase }, { on := 8, ground := Ground.phase }, { on := 9, ground := Ground.phase }, { on := 10, ground := Ground.phase }, { on := 11, ground := Ground.phase }, { on := 12, ground := Ground.phase }, { on := 13, ground := Ground.phase }, { on := 14, ground := Ground.phase }, { on := 15, ground := Ground.phase }, { on := 16, ground := Ground.phase }, { on := 17, ground := Ground.phase }, { on := 18, ground := Ground.phase }, { on := 19, ground := Ground.phase }, { on := 20, ground := Ground.phase }, { on := 21, ground := Ground.phase }, { on := 22, ground := Ground.phase }, { on := 23, ground := Ground.phase }, { on := 24, ground := Ground.phase }, { on := 25, ground := Ground.phase }], guard := none }) rfl (fun K hK => ?_) ?_
    rotate_left 1
    · exact AllReadyH.nil
    go_simp
    go_simp
    refine hK.out _ _ (by with_reducible exact ⟨s1, s2, s3, s4, s5⟩) (fun hHeld => ?_)
    clear hK K
    try simp only [Act.put, List.setIfInBounds_toArray, List.set_cons_zero, List.set_cons_succ]
    refine wpAnyH_done (by kernel_rfl) ?_ _
    clear s1 s2 s3 s4 s5 cf1 ff1
    generalize we.setCell _ _ = wf at *
    go_upto_region 4 with fail
    have e1 := (h6).cell
    have e2 := (h6).f2.cell
    have f2 := (h6).f2.free
    have h9 := (((((((((h6).f2.set 0 (.int .i64 a1)).set 1 (.int .i64 a2)).set 2 (.bool cmd)).set 3 (.int .i64 k)).set 4 (.bool pf)).set 5 (.int .i64 (vr1 % 128))).set 6 (.int .i64 (va1 % 128))).set 7 (.string inf))
    rw [set8] at h9
    go_wp2
    generalize hw9 : (((((((((wf.setCell ⟨gt, 0, none⟩ (.int .i64 a1)).setCell ⟨gt, 1, none⟩ (.int .i64 a2)).setCell ⟨gt, 2, none⟩ (.bool cmd)).setCell ⟨gt, 3, none⟩ (.int .i64 k)).setCell ⟨gt, 4, none⟩ (.bool pf)).setCell ⟨gt, 5, none⟩ (.int .i64 (vr1 % 128))).setCell ⟨gt, 6, none⟩ (.int .i64 (va1 % 128))).setCell ⟨gt, 7, none⟩ (.string inf))) = w9 at *
    clear hw9
    have c9 := h9.cell
    refine bodyPost_ret (v := .agg #[.int .i64 a1, .int .i64 a2, .bool cmd, .int .i64 k, .bool pf, .int .i64 (vr1 % 128), .int .i64 (va1 % 128), .string inf]) (by simp [results, Tryz.results25, go_sem, c9]) rfl ⟨rfl, h9.drop.drop.drop⟩

/-! the same effects -/
theorem l_sameFrame (f : Fr) (w0 w : World) (R : HP) (h : St w0 w R) :
    Calls Tryz.prog 79 #[.agg f.cells.toArray, .agg f.cells.toArray] w fun e w' => e = .returned (.bool true) ∧ St w0 w' R := by
  have h2 := (h.alloc (.cells f.cells.toArray TFr)).alloc (.cells f.cells.toArray TRf)
  go_enter Tryz.func79, Tryz.ntmps79
  go_upto_region 1 with fail
  simp only [World.size_alloc] at *
  generalize (w.alloc _).alloc _ = wa at *
  generalize w.heap.size = ga at *
  have d := h2.f2.cell
  have d2 := h2.cell
  go_wp2
  go_ret
  exact ⟨rfl, h2.drop.drop⟩

def FxAt (w : World) (g1 o1 g2 o2 i : Nat) (x : Fx) : Prop := w.cell? ⟨g1, o1 + i * 11, none⟩ = some (Value.int .i64 x.kind) ∧ w.cell? ⟨g1, o1 + i * 11 + 1, none⟩ = some (Value.int .i64 x.fr.sapi) ∧ w.cell? ⟨g1, o1 + i * 11 + 1 + 1, none⟩ = some (Value.int .i64 x.fr.tei) ∧ w.cell? ⟨g1, o1 + i * 11 + 1 + 2, none⟩ = some (Value.bool x.fr.cmd) ∧ w.cell? ⟨g1, o1 + i * 11 + 1 + 3, none⟩ = some (Value.int .i64 x.fr.kind) ∧ w.cell? ⟨g1, o1 + i * 11 + 1 + 4, none⟩ = some (Value.bool x.fr.pf) ∧ w.cell? ⟨g1, o1 + i * 11 + 1 + 5, none⟩ = some (Value.int .i64 x.fr.ns) ∧ w.cell? ⟨g1, o1 + i * 11 + 1 + 6, none⟩ = some (Value.int .i64 x.fr.nr) ∧ w.cell? ⟨g1, o1 + i * 11 + 1 + 7, none⟩ = some (Value.string x.fr.info) ∧ w.cell? ⟨g1, o1 + i * 11 + 9, none⟩ = some (Value.string x.data) ∧ w.cell? ⟨g1, o1 + i * 11 + 10, none⟩ = some (Value.int .i64 x.timer) ∧ w.cell? ⟨g2, o2 + i * 11, none⟩ = some (Value.int .i64 x.kind) ∧ w.cell? ⟨g2, o2 + i * 11 + 1, none⟩ = some (Value.int .i64 x.fr.sapi) ∧ w.cell? ⟨g2, o2 + i * 11 + 1 + 1, none⟩ = some (Value.int .i64 x.fr.tei) ∧ w.cell? ⟨g2, o2 + i * 11 + 1 + 2, none⟩ = some (Value.bool x.fr.cmd) ∧ w.cell? ⟨g2, o2 + i * 11 + 1 + 3, none⟩ = some (Value.int .i64 x.fr.kind) ∧ w.cell? ⟨g2, o2 + i * 11 + 1 + 4, none⟩ = some (Value.bool x.fr.pf) ∧ w.cell? ⟨g2, o2 + i * 11 + 1 + 5, none⟩ = some (Value.int .i64 x.fr.ns) ∧ w.cell? ⟨g2, o2 + i * 11 + 1 + 6, none⟩ = some (Value.int .i64 x.fr.nr) ∧ w.cell? ⟨g2, o2 + i * 11 + 1 + 7, none⟩ = some (Value.string x.fr.info) ∧ w.cell? ⟨g2, o2 + i * 11 + 9, none⟩ = some (Value.string x.data) ∧ w.cell? ⟨g2, o2 + i * 11 + 10, none⟩ = some (Value.int .i64 x.timer)
theorem fx_facts {w0 w : World} {R : HP} {g1 o1 c1 g2 o2 c2 n : Nat} {l : List Fx} (h : St w0 w (LAt TFx 11 Fx.cells (.slice (some ⟨g1, o1, none⟩) n c1) l * (LAt TRx 11 Fx.cells (.slice (some ⟨g2, o2, none⟩) n c2) l * R))) (i : Nat) (x : Fx) (hx : l[i]? = some x) : FxAt w g1 o1 g2 o2 i x := by
  have hi : i < l.length := (List.getElem?_eq_some_iff.1 hx).1
  have key1 : ∀ j, j < 11 → w.cell? ⟨g1, o1 + (i * 11 + j), none⟩ = x.cells[j]? := fun j hj => by
    have := h.row_cell (i * 11 + j) (by have := Nat.mul_le_mul_right 11 (show i + 1 ≤ l.length from hi); omega)
    rw [this, encs_at tyFx.len l i x j hx hj]
  have key2 : ∀ j, j < 11 → w.cell? ⟨g2, o2 + (i * 11 + j), none⟩ = x.cells[j]? := fun j hj => by
    have := h.f2.row_cell (i * 11 + j) (by have := Nat.mul_le_mul_right 11 (show i + 1 ≤ l.length from hi); omega)
    rw [this, encs_at tyRx.len l i x j hx hj]
  unfold FxAt
  refine ⟨key1 0 (by decide), key1 1 (by decide), by rw [show o1 + i * 11 + 1 + 1 = o1 + (i * 11 + 2) by omega]; exact key1 2 (by decide), by rw [show o1 + i * 11 + 1 + 2 = o1 + (i * 11 + 3) by omega]; exact key1 3 (by decide), by rw [show o1 + i * 11 + 1 + 3 = o1 + (i * 11 + 4) by omega]; exact key1 4 (by decide), by rw [show o1 + i * 11 + 1 + 4 = o1 + (i * 11 + 5) by omega]; exact key1 5 (by decide), by rw [show o1 + i * 11 + 1 + 5 = o1 + (i * 11 + 6) by omega]; exact key1 6 (by decide), by rw [show o1 + i * 11 + 1 + 6 = o1 + (i * 11 + 7) by omega]; exact key1 7 (by decide), by rw [show o1 + i * 11 + 1 + 7 = o1 + (i * 11 + 8) by omega]; exact key1 8 (by decide), key1 9 (by decide), key1 10 (by decide), key2 0 (by decide), key2 1 (by decide), by rw [show o2 + i * 11 + 1 + 1 = o2 + (i * 11 + 2) by omega]; exact key2 2 (by decide), by rw [show o2 + i * 11 + 1 + 2 = o2 + (i * 11 + 3) by omega]; exact key2 3 (by decide), by rw [show o2 + i * 11 + 1 + 3 = o2 + (i * 11 + 4) by omega]; exact key2 4 (by decide), by rw [show o2 + i * 11 + 1 + 4 = o2 + (i * 11 + 5) by omega]; exact key2 5 (by decide), by rw [show o2 + i * 11 + 1 + 5 = o2 + (i * 11 + 6) by omega]; exact key2 6 (by decide), by rw [show o2 + i * 11 + 1 + 6 = o2 + (i * 11 + 7) by omega]; exact key2 7 (by decide), by rw [show o2 + i * 11 + 1 + 7 = o2 + (i * 11 + 8) by omega]; exact key2 8 (by decide), key2 9 (by decide), key2 10 (by decide)⟩
set_option maxRecDepth 100000 in
set_option maxHeartbeats 1600000 in
theorem l_sameEffects (v1 v2 : Value) (l : List Fx) (hl : l.length ≤ 100000) (w0 w : World) (R : HP) (h : St w0 w (LAt TFx 11 Fx.cells v1 l * (LAt TRx 11 Fx.cells v2 l * R))) :
    Calls Tryz.prog 34 #[v1, v2] w fun e w' => e = .returned (.bool true) ∧ St w0 w' (LAt TFx 11 Fx.cells v1 l * (LAt TRx 11 Fx.cells v2 l * R)) := by
  obtain ⟨a1, c1, rfl, hc1, hm1⟩ := h.l_shape
  obtain ⟨a2, c2, rfl, hc2, hm2⟩ := h.f2.l_shape
  obtain ⟨n, hn⟩ : ∃ n, l.length = n := ⟨_, rfl⟩
  rw [hn] at hl h hc1 hc2 ⊢
  have HN := Lib.hid hn
  clear hn
  go_enter Tryz.func34, Tryz.ntmps34
  go_wp2
  go_loopw [13] (fun s13 wr => ∃ i : Nat, i ≤ n ∧ s13 = .int .i64 i ∧ St w0 wr (LAt TFx 11 Fx.cells (.slice a1 n c1) l * (LAt TRx 11 Fx.cells (.slice a2 n c2) l * R))) (fun s13 _ => n - (intOf s13).toNat)
  case atStart => exact ⟨0, by omega, rfl, h⟩
  case round =>
    clear h
    obtain ⟨i, hi, rfl, h2⟩ := hrel
    by_cases hlt : i < n
    · have hil : i < l.length := by rw [HN.out]; exact hlt
      obtain ⟨x, hx⟩ : ∃ x, l[i]? = some x := ⟨l[i], List.getElem?_eq_getElem hil⟩
      obtain ⟨g1, o1, rfl⟩ : ∃ g o, a1 = some ⟨g, o, none⟩ := by
        rcases h2.l_cells tyFx.len with ⟨h0, _⟩ | ⟨g, o, cp, hv, _⟩
        · rw [h0] at hil; simp at hil
        · simp only [Value.slice.injEq] at hv; exact ⟨g, o, hv.1⟩
      obtain ⟨g2, o2, rfl⟩ : ∃ g o, a2 = some ⟨g, o, none⟩ := by
        rcases h2.f2.l_cells tyRx.len with ⟨h0, _⟩ | ⟨g, o, cp, hv, _⟩
        · rw [h0] at hil; simp at hil
        · simp only [Value.slice.injEq] at hv; exact ⟨g, o, hv.1⟩
      have HX := Lib.hid hx
      clear hx hil
      have hlti : (i : Int) < (n : Int) := by omega
      have F0 := fx_facts h2.drew i x HX.out
      unfold FxAt at F0
      go_upto_region 6 with fail
      refine wp_region_held_drew (S := fun wx => wx.cell? ⟨g1, o1 + i * 11, none⟩ = some (Value.int .i64 x.kind) ∧ wx.cell? ⟨g1, o1 + i * 11 + 1, none⟩ = some (Value.int .i64 x.fr.sapi) ∧ wx.cell? ⟨g1, o1 + i * 11 + 1 + 1, none⟩ = some (Value.int .i64 x.fr.tei) ∧ wx.cell? ⟨g1, o1 + i * 11 + 1 + 2, none⟩ = some (Value.bool x.fr.cmd) ∧ wx.cell? ⟨g1, o1 + i * 11 + 1 + 3, none⟩ = some (Value.int .i64 x.fr.kind) ∧ wx.cell? ⟨g1, o1 + i * 11 + 1 + 4, none⟩ = some (Value.bool x.fr.pf) ∧ wx.cell? ⟨g1, o1 + i * 11 + 1 + 5, none⟩ = some (Value.int .i64 x.fr.ns) ∧ wx.cell? ⟨g1, o1 + i * 11 + 1 + 6, none⟩ = some (Value.int .i64 x.fr.nr) ∧ wx.cell? ⟨g1, o1 + i * 11 + 1 + 7, none⟩ = some (Value.string x.fr.info) ∧ wx.cell? ⟨g1, o1 + i * 11 + 9, none⟩ = some (Value.string x.data) ∧ wx.cell? ⟨g1, o1 + i * 11 + 10, none⟩ = some (Value.int .i64 x.timer) ∧ wx.cell? ⟨g2, o2 + i * 11, none⟩ = some (Value.int .i64 x.kind) ∧ wx.cell? ⟨g2, o2 + i * 11 + 1, none⟩ = some (Value.int .i64 x.fr.sapi) ∧ wx.cell? ⟨g2, o2 + i * 11 + 1 + 1, none⟩ = some (Value.int .i64 x.fr.tei) ∧ wx.cell? ⟨g2, o2 + i * 11 + 1 + 2, none⟩ = some (Value.bool x.fr.cmd) ∧ wx.cell? ⟨g2, o2 + i * 11 + 1 + 3, none⟩ = some (Value.int .i64 x.fr.kind) ∧ wx.cell? ⟨g2, o2 + i * 11 + 1 + 4, none⟩ = some (Value.bool x.fr.pf) ∧ wx.cell? ⟨g2, o2 + i * 11 + 1 + 5, none⟩ = some (Value.int .i64 x.fr.ns) ∧ wx.cell? ⟨g2, o2 + i * 11 + 1 + 6, none⟩ = some (Value.int .i64 x.fr.nr) ∧ wx.cell? ⟨g2, o2 + i * 11 + 1 + 7, none⟩ = some (Value.string x.fr.info) ∧ wx.cell? ⟨g2, o2 + i * 11 + 9, none⟩ = some (Value.string x.data) ∧ wx.cell? ⟨g2, o2 + i * 11 + 10, none⟩ = some (Value.int .i64 x.timer)) (by kernel_rfl) ?_ (fun hHeld => ?_)
      · with_reducible exact F0
      have h3 := h2.drew
      clear h2 F0
      generalize wr.drew = wd at *
      refine wpAnyH_take (i := 0) (oi := { dst := some 16, op := Op.move (Operand.tmp 0), type := 45, pos := "law.go:59", after := #[], guard := none }) (v := ?_) rfl (by kernel_rfl) (by kernel_rfl) (by kernel_rfl) (fun _ _ _ h => h) (Or.inl ⟨by rfl, ?_⟩) (by assumption) ?_
      rotate_left 1
      · intro w hSw
        try dsimp only at hSw
        go_simp
        try with_reducible rfl
      try simp only [Act.put, List.setIfInBounds_toArray, List.set_cons_zero, List.set_cons_succ]
      refine wpAnyH_take (i := 1) (oi := { dst := some 17, op := Op.move (Operand.tmp 5), type := 3, pos := "law.go:59", after := #[], guard := none }) (v := ?_) rfl (by kernel_rfl) (by kernel_rfl) (by kernel_rfl) (fun _ _ _ h => h) (Or.inl ⟨by rfl, ?_⟩) (by assumption) ?_
      rotate_left 1
      · intro w hSw
        try dsimp only at hSw
        go_simp
        try with_reducible rfl
      try simp only [Act.put, List.setIfInBounds_toArray, List.set_cons_zero, List.set_cons_succ]
      refine wpAnyH_take (i := 2) (oi := { dst := some 18, op := Op.indexAddr 45 (Operand.tmp 16) (Operand.tmp 17), type := 0, pos := "law.go:59", after := #[{ on := 0, ground := Ground.data }, { on := 1, ground := Ground.data }], guard := none }) (v := ?_) rfl (by kernel_rfl) (by kernel_rfl) (by kernel_rfl) (fun _ _ _ h => h) (Or.inl ⟨by rfl, ?_⟩) (by assumption) ?_
      rotate_left 1
      · intro w hSw
        try dsimp only at hSw
        go_simp
        try with_reducible rfl
      try simp only [Act.put, List.setIfInBounds_toArray, List.set_cons_zero, List.set_cons_succ]
      refine wpAnyH_take (i := 3) (oi := { dst := some 19, op := Op.fieldAddr 61 (Operand.tmp 18) 0, type := 0, pos := "law.go:59", after := #[{ on := 2, ground := Ground.data }], guard := none }) (v := ?_) rfl (by kernel_rfl) (by kernel_rfl) (by kernel_rfl) (fun _ _ _ h => h) (Or.inl ⟨by rfl, ?_⟩) (by assumption) ?_
      rotate_left 1
      · intro w hSw
        try dsimp only at hSw
        go_simp
        try with_reducible rfl
      try simp only [Act.put, List.setIfInBounds_toArray, List.set_cons_zero, List.set_cons_succ]
      refine wpAnyH_take (i := 4) (oi := { dst := some 20, op := Op.load 59 (Operand.tmp 19), type := 59, pos := "law.go:59", after := #[{ on := 3, ground := Ground.data }], guard := none }) (v := ?_) rfl (by kernel_rfl) (by kernel_rfl) (by kernel_rfl) (fun _ _ _ h => h) (Or.inl ⟨by rfl, ?_⟩) (by assumption) ?_
      rotate_left 1
      · intro w hSw
        try dsimp only at hSw
        go_simp
        try with_reducible rfl
      try simp only [Act.put, List.setIfInBounds_toArray, List.set_cons_zero, List.set_cons_succ]
      refine wpAnyH_take (i := 5) (oi := { dst := some 21, op := Op.move (Operand.tmp 1), type := 83, pos := "law.go:59", after := #[], guard := none }) (v := ?_) rfl (by kernel_rfl) (by kernel_rfl) (by kernel_rfl) (fun _ _ _ h => h) (Or.inl ⟨by rfl, ?_⟩) (by assumption) ?_
      rotate_left 1
      · intro w hSw
        try dsimp only at hSw
        go_simp
        try with_reducible rfl
      try simp only [Act.put, List.setIfInBounds_toArray, List.set_cons_zero, List.set_cons_succ]
      refine wpAnyH_take (i := 6) (oi := { dst := some 22, op := Op.move (Operand.tmp 5), type := 3, pos := "law.go:59", after := #[], guard := none }) (v := ?_) rfl (by kernel_rfl) (by kernel_rfl) (by kernel_rfl) (fun _ _ _ h => h) (Or.inl ⟨by rfl, ?_⟩) (by assumption) ?_
      rotate_left 1
      · intro w hSw
        try dsimp only at hSw
        go_simp
        try with_reducible rfl
      try simp only [Act.put, List.setIfInBounds_toArray, List.set_cons_zero, List.set_cons_succ]
      refine wpAnyH_take (i := 7) (oi := { dst := some 23, op := Op.indexAddr 83 (Operand.tmp 21) (Operand.tmp 22), type := 0, pos := "law.go:59", after := #[{ on := 5, ground := Ground.data }, { on := 6, ground := Ground.data }], guard := none }) (v := ?_) rfl (by kernel_rfl) (by kernel_rfl) (by kernel_rfl) (fun _ _ _ h => h) (Or.inl ⟨by rfl, ?_⟩) (by assumption) ?_
      rotate_left 1
      · intro w hSw
        try dsimp only at hSw
        go_simp
        try with_reducible rfl
      try simp only [Act.put, List.setIfInBounds_toArray, List.set_cons_zero, List.set_cons_succ]
      refine wpAnyH_take (i := 8) (oi := { dst := some 24, op := Op.fieldAddr 134 (Operand.tmp 23) 0, type := 0, pos := "law.go:59", after := #[{ on := 7, ground := Ground.data }], guard := none }) (v := ?_) rfl (by kernel_rfl) (by kernel_rfl) (by kernel_rfl) (fun _ _ _ h => h) (Or.inl ⟨by rfl, ?_⟩) (by assumption) ?_
      rotate_left 1
      · intro w hSw
        try dsimp only at hSw
        go_simp
        try with_reducible rfl
      try simp only [Act.put, List.setIfInBounds_toArray, List.set_cons_zero, List.set_cons_succ]
      refine wpAnyH_take (i := 9) (oi := { dst := some 25, op := Op.load 3 (Operand.tmp 24), type := 3, pos := "law.go:59", after := #[{ on := 8, ground := Ground.data }], guard := none }) (v := ?_) rfl (by kernel_rfl) (by kernel_rfl) (by kernel_rfl) (fun _ _ _ h => h) (Or.inl ⟨by rfl, ?_⟩) (by assumption) ?_
      rotate_left 1
      · intro w hSw
        try dsimp only at hSw
        go_simp
        try with_reducible rfl
      try simp only [Act.put, List.setIfInBounds_toArray, List.set_cons_zero, List.set_cons_succ]
      refine wpAnyH_take (i := 10) (oi := { dst := some 26, op := Op.binOp BinOp.neq 3 (Operand.tmp 20) (Operand.tmp 25) 3, type := 4, pos := "law.go:59", after := #[{ on := 4, ground := Ground.data }, { on := 9, ground := Ground.data }], guard := none }) (v := ?_) rfl (by kernel_rfl) (by kernel_rfl) (by kernel_rfl) (fun _ _ _ h => h) (Or.inl ⟨by rfl, ?_⟩) (by assumption) ?_
      rotate_left 1
      · intro w hSw
        try dsimp only at hSw
        go_simp
        try with_reducible rfl
      try simp only [Act.put, List.setIfInBounds_toArray, List.set_cons_zero, List.set_cons_succ]
      refine wpAnyH_take (i := 11) (oi := { dst := some 27, op := Op.move (Operand.tmp 26), type := 4, pos := "law.go:59", after := #[{ on := 10, ground := Ground.data }], guard := none }) (v := ?_) rfl (by kernel_rfl) (by kernel_rfl) (by kernel_rfl) (fun _ _ _ h => h) (Or.inl ⟨by rfl, ?_⟩) (by assumption) ?_
      rotate_left 1
      · intro w hSw
        try dsimp only at hSw
        go_simp
        try with_reducible rfl
      try simp only [Act.put, List.setIfInBounds_toArray, List.set_cons_zero, List.set_cons_succ]
      refine wpAnyH_take (i := 12) (oi := { dst := some 28, op := Op.move (Operand.tmp 0), type := 45, pos := "law.go:59", after := #[{ on := 11, ground := Ground.guard }], guard := some (11, false) }) (v := ?_) rfl (by kernel_rfl) (by kernel_rfl) (by kernel_rfl) (fun _ _ _ h => h) (Or.inl ⟨by rfl, ?_⟩) (by assumption) ?_
      rotate_left 1
      · intro w hSw
        try dsimp only at hSw
        go_simp
        try with_reducible rfl
      try simp only [Act.put, List.setIfInBounds_toArray, List.set_cons_zero, List.set_cons_succ]
      refine wpAnyH_take (i := 13) (oi := { dst := some 29, op := Op.move (Operand.tmp 5), type := 3, pos := "law.go:59", after := #[{ on := 11, ground := Ground.guard }], guard := some (11, false) }) (v := ?_) rfl (by kernel_rfl) (by kernel_rfl) (by kernel_rfl) (fun _ _ _ h => h) (Or.inl ⟨by rfl, ?_⟩) (by assumption) ?_
      rotate_left 1
      · intro w hSw
        try dsimp only at hSw
        go_simp
        try with_reducible rfl
      try simp only [Act.put, List.setIfInBounds_toArray, List.set_cons_zero, List.set_cons_succ]
      refine wpAnyH_take (i := 14) (oi := { dst := some 30, op := Op.indexAddr 45 (Operand.tmp 28) (Operand.tmp 29), type := 0, pos := "law.go:59", after := #[{ on := 12, ground := Ground.data }, { on := 13, ground := Ground.data }, { on := 11, ground := Ground.guard }], guard := some (11, false) }) (v := ?_) rfl (by kernel_rfl) (by kernel_rfl) (by kernel_rfl) (fun _ _ _ h => h) (Or.inl ⟨by rfl, ?_⟩) (by assumption) ?_
      rotate_left 1
      · intro w hSw
        try dsimp only at hSw
        go_simp
        try with_reducible rfl
      try simp only [Act.put, List.setIfInBounds_toArray, List.set_cons_zero, List.set_cons_succ]
      refine wpAnyH_take (i := 15) (oi := { dst := some 31, op := Op.fieldAddr 61 (Operand.tmp 30) 2, type := 0, pos := "law.go:59", after := #[{ on := 14, ground := Ground.data }, { on := 11, ground := Ground.guard }], guard := some (11, false) }) (v := ?_) rfl (by kernel_rfl) (by kernel_rfl) (by kernel_rfl) (fun _ _ _ h => h) (Or.inl ⟨by rfl, ?_⟩) (by assumption) ?_
      rotate_left 1
      · intro w hSw
        try dsimp only at hSw
        go_simp
        try with_reducible rfl
      try simp only [Act.put, List.setIfInBounds_toArray, List.set_cons_zero, List.set_cons_succ]
      refine wpAnyH_take (i := 16) (oi := { dst := some 32, op := Op.load 9 (Operand.tmp 31), type := 9, pos := "law.go:59", after := #[{ on := 15, ground := Ground.data }, { on := 11, ground := Ground.guard }], guard := some (11, false) }) (v := ?_) rfl (by kernel_rfl) (by kernel_rfl) (by kernel_rfl) (fun _ _ _ h => h) (Or.inl ⟨by rfl, ?_⟩) (by assumption) ?_
      rotate_left 1
      · intro w hSw
        try dsimp only at hSw
        go_simp
        try with_reducible rfl
      try simp only [Act.put, List.setIfInBounds_toArray, List.set_cons_zero, List.set_cons_succ]
      refine wpAnyH_take (i := 17) (oi := { dst := some 33, op := Op.move (Operand.tmp 1), type := 83, pos := "law.go:59", after := #[{ on := 11, ground := Ground.guard }], guard := some (11, false) }) (v := ?_) rfl (by kernel_rfl) (by kernel_rfl) (by kernel_rfl) (fun _ _ _ h => h) (Or.inl ⟨by rfl, ?_⟩) (by assumption) ?_
      rotate_left 1
      · intro w hSw
        try dsimp only at hSw
        go_simp
        try with_reducible rfl
      try simp only [Act.put, List.setIfInBounds_toArray, List.set_cons_zero, List.set_cons_succ]
      refine wpAnyH_take (i := 18) (oi := { dst := some 34, op := Op.move (Operand.tmp 5), type := 3, pos := "law.go:59", after := #[{ on := 11, ground := Ground.guard }], guard := some (11, false) }) (v := ?_) rfl (by kernel_rfl) (by kernel_rfl) (by kernel_rfl) (fun _ _ _ h => h) (Or.inl ⟨by rfl, ?_⟩) (by assumption) ?_
      rotate_left 1
      · intro w hSw
        try dsimp only at hSw
        go_simp
        try with_reducible rfl
      try simp only [Act.put, List.setIfInBounds_toArray, List.set_cons_zero, List.set_cons_succ]
      refine wpAnyH_take (i := 19) (oi := { dst := some 35, op := Op.indexAddr 83 (Operand.tmp 33) (Operand.tmp 34), type := 0, pos := "law.go:59", after := #[{ on := 17, ground := Ground.data }, { on := 18, ground := Ground.data }, { on := 11, ground := Ground.guard }], guard := some (11, false) }) (v := ?_) rfl (by kernel_rfl) (by kernel_rfl) (by kernel_rfl) (fun _ _ _ h => h) (Or.inl ⟨by rfl, ?_⟩) (by assumption) ?_
      rotate_left 1
      · intro w hSw
        try dsimp only at hSw
        go_simp
        try with_reducible rfl
      try simp only [Act.put, List.setIfInBounds_toArray, List.set_cons_zero, List.set_cons_succ]
      refine wpAnyH_take (i := 20) (oi := { dst := some 36, op := Op.fieldAddr 134 (Operand.tmp 35) 2, type := 0, pos := "law.go:59", after := #[{ on := 19, ground := Ground.data }, { on := 11, ground := Ground.guard }], guard := some (11, false) }) (v := ?_) rfl (by kernel_rfl) (by kernel_rfl) (by kernel_rfl) (fun _ _ _ h => h) (Or.inl ⟨by rfl, ?_⟩) (by assumption) ?_
      rotate_left 1
      · intro w hSw
        try dsimp only at hSw
        go_simp
        try with_reducible rfl
      try simp only [Act.put, List.setIfInBounds_toArray, List.set_cons_zero, List.set_cons_succ]
      refine wpAnyH_take (i := 21) (oi := { dst := some 37, op := Op.load 9 (Operand.tmp 36), type := 9, pos := "law.go:59", after := #[{ on := 20, ground := Ground.data }, { on := 11, ground := Ground.guard }], guard := some (11, false) }) (v := ?_) rfl (by kernel_rfl) (by kernel_rfl) (by kernel_rfl) (fun _ _ _ h => h) (Or.inl ⟨by rfl, ?_⟩) (by assumption) ?_
      rotate_left 1
      · intro w hSw
        try dsimp only at hSw
        go_simp
        try with_reducible rfl
      try simp only [Act.put, List.setIfInBounds_toArray, List.set_cons_zero, List.set_cons_succ]
      refine wpAnyH_take (i := 22) (oi := { dst := some 38, op := Op.binOp BinOp.neq 9 (Operand.tmp 32) (Operand.tmp 37) 9, type := 4, pos := "law.go:59", after := #[{ on := 16, ground := Ground.data }, { on := 21, ground := Ground.data }, { on := 11, ground := Ground.guard }], guard := some (11, false) }) (v := ?_) rfl (by kernel_rfl) (by kernel_rfl) (by kernel_rfl) (fun _ _ _ h => h) (Or.inl ⟨by rfl, ?_⟩) (by assumption) ?_
      rotate_left 1
      · intro w hSw
        try dsimp only at hSw
        go_simp
        try with_reducible rfl
      try simp only [Act.put, List.setIfInBounds_toArray, List.set_cons_zero, List.set_cons_succ]
      refine wpAnyH_take (i := 23) (oi := { dst := some 39, op := Op.pick (Operand.tmp 27) (Operand.const (Value.bool true)) (Operand.tmp 38), type := 4, pos := "law.go:59", after := #[{ on := 11, ground := Ground.data }, { on := 22, ground := Ground.data }], guard := none }) (v := ?_) rfl (by kernel_rfl) (by kernel_rfl) (by kernel_rfl) (fun _ _ _ h => h) (Or.inl ⟨by rfl, ?_⟩) (by assumption) ?_
      rotate_left 1
      · intro w hSw
        try dsimp only at hSw
        go_simp
        try with_reducible rfl
      try simp only [Act.put, List.setIfInBounds_toArray, List.set_cons_zero, List.set_cons_succ]
      refine wpAnyH_take (i := 24) (oi := { dst := some 40, op := Op.move (Operand.tmp 39), type := 4, pos := "law.go:59", after := #[{ on := 23, ground := Ground.data }, { on := 11, ground := Ground.chain }], guard := none }) (v := ?_) rfl (by kernel_rfl) (by kernel_rfl) (by kernel_rfl) (fun _ _ _ h => h) (Or.inl ⟨by rfl, ?_⟩) (by assumption) ?_
      rotate_left 1
      · intro w hSw
        try dsimp only at hSw
        go_simp
        try with_reducible rfl
      try simp only [Act.put, List.setIfInBounds_toArray, List.set_cons_zero, List.set_cons_succ]
      refine wpAnyH_take (i := 25) (oi := { dst := some 41, op := Op.move (Operand.tmp 0), type := 45, pos := "law.go:59", after := #[{ on := 24, ground := Ground.guard }], guard := some (24, false) }) (v := ?_) rfl (by kernel_rfl) (by kernel_rfl) (by kernel_rfl) (fun _ _ _ h => h) (Or.inl ⟨by rfl, ?_⟩) (by assumption) ?_
      rotate_left 1
      · intro w hSw
        try dsimp only at hSw
        go_simp
        try with_reducible rfl
      try simp only [Act.put, List.setIfInBounds_toArray, List.set_cons_zero, List.set_cons_succ]
      refine wpAnyH_take (i := 26) (oi := { dst := some 42, op := Op.move (Operand.tmp 5), type := 3, pos := "law.go:59", after := #[{ on := 24, ground := Ground.guard }], guard := some (24, false) }) (v := ?_) rfl (by kernel_rfl) (by kernel_rfl) (by kernel_rfl) (fun _ _ _ h => h) (Or.inl ⟨by rfl, ?_⟩) (by assumption) ?_
      rotate_left 1
      · intro w hSw
        try dsimp only at hSw
        go_simp
        try with_reducible rfl
      try simp only [Act.put, List.setIfInBounds_toArray, List.set_cons_zero, List.set_cons_succ]
      refine wpAnyH_take (i := 27) (oi := { dst := some 43, op := Op.indexAddr 45 (Operand.tmp 41) (Operand.tmp 42), type := 0, pos := "law.go:59", after := #[{ on := 25, ground := Ground.data }, { on := 26, ground := Ground.data }, { on := 24, ground := Ground.guard }], guard := some (24, false) }) (v := ?_) rfl (by kernel_rfl) (by kernel_rfl) (by kernel_rfl) (fun _ _ _ h => h) (Or.inl ⟨by rfl, ?_⟩) (by assumption) ?_
      rotate_left 1
      · intro w hSw
        try dsimp only at hSw
        go_simp
        try with_reducible rfl
      try simp only [Act.put, List.setIfInBounds_toArray, List.set_cons_zero, List.set_cons_succ]
      refine wpAnyH_take (i := 28) (oi := { dst := some 44, op := Op.fieldAddr 61 (Operand.tmp 43) 3, type := 0, pos := "law.go:59", after := #[{ on := 27, ground := Ground.data }, { on := 24, ground := Ground.guard }], guard := some (24, false) }) (v := ?_) rfl (by kernel_rfl) (by kernel_rfl) (by kernel_rfl) (fun _ _ _ h => h) (Or.inl ⟨by rfl, ?_⟩) (by assumption) ?_
      rotate_left 1
      · intro w hSw
        try dsimp only at hSw
        go_simp
        try with_reducible rfl
      try simp only [Act.put, List.setIfInBounds_toArray, List.set_cons_zero, List.set_cons_succ]
      refine wpAnyH_take (i := 29) (oi := { dst := some 45, op := Op.load 3 (Operand.tmp 44), type := 3, pos := "law.go:59", after := #[{ on := 28, ground := Ground.data }, { on := 24, ground := Ground.guard }], guard := some (24, false) }) (v := ?_) rfl (by kernel_rfl) (by kernel_rfl) (by kernel_rfl) (fun _ _ _ h => h) (Or.inl ⟨by rfl, ?_⟩) (by assumption) ?_
      rotate_left 1
      · intro w hSw
        try dsimp only at hSw
        go_simp
        try with_reducible rfl
      try simp only [Act.put, List.setIfInBounds_toArray, List.set_cons_zero, List.set_cons_succ]
      refine wpAnyH_take (i := 30) (oi := { dst := some 46, op := Op.move (Operand.tmp 1), type := 83, pos := "law.go:59", after := #[{ on := 24, ground := Ground.guard }], guard := some (24, false) }) (v := ?_) rfl (by kernel_rfl) (by kernel_rfl) (by kernel_rfl) (fun _ _ _ h => h) (Or.inl ⟨by rfl, ?_⟩) (by assumption) ?_
      rotate_left 1
      · intro w hSw
        try dsimp only at hSw
        go_simp
        try with_reducible rfl
      try simp only [Act.put, List.setIfInBounds_toArray, List.set_cons_zero, List.set_cons_succ]
      refine wpAnyH_take (i := 31) (oi := { dst := some 47, op := Op.move (Operand.tmp 5), type := 3, pos := "law.go:59", after := #[{ on := 24, ground := Ground.guard }], guard := some (24, false) }) (v := ?_) rfl (by kernel_rfl) (by kernel_rfl) (by kernel_rfl) (fun _ _ _ h => h) (Or.inl ⟨by rfl, ?_⟩) (by assumption) ?_
      rotate_left 1
      · intro w hSw
        try dsimp only at hSw
        go_simp
        try with_reducible rfl
      try simp only [Act.put, List.setIfInBounds_toArray, List.set_cons_zero, List.set_cons_succ]
      refine wpAnyH_take (i := 32) (oi := { dst := some 48, op := Op.indexAddr 83 (Operand.tmp 46) (Operand.tmp 47), type := 0, pos := "law.go:59", after := #[{ on := 30, ground := Ground.data }, { on := 31, ground := Ground.data }, { on := 24, ground := Ground.guard }], guard := some (24, false) }) (v := ?_) rfl (by kernel_rfl) (by kernel_rfl) (by kernel_rfl) (fun _ _ _ h => h) (Or.inl ⟨by rfl, ?_⟩) (by assumption) ?_
      rotate_left 1
      · intro w hSw
        try dsimp only at hSw
        go_simp
        try with_reducible rfl
      try simp only [Act.put, List.setIfInBounds_toArray, List.set_cons_zero, List.set_cons_succ]
      refine wpAnyH_take (i := 33) (oi := { dst := some 49, op := Op.fieldAddr 134 (Operand.tmp 48) 3, type := 0, pos := "law.go:59", after := #[{ on := 32, ground := Ground.data }, { on := 24, ground := Ground.guard }], guard := some (24, false) }) (v := ?_) rfl (by kernel_rfl) (by kernel_rfl) (by kernel_rfl) (fun _ _ _ h => h) (Or.inl ⟨by rfl, ?_⟩) (by assumption) ?_
      rotate_left 1
      · intro w hSw
        try dsimp only at hSw
        go_simp
        try with_reducible rfl
      try simp only [Act.put, List.setIfInBounds_toArray, List.set_cons_zero, List.set_cons_succ]
      refine wpAnyH_take (i := 34) (oi := { dst := some 50, op := Op.load 3 (Operand.tmp 49), type := 3, pos := "law.go:59", after := #[{ on := 33, ground := Ground.data }, { on := 24, ground := Ground.guard }], guard := some (24, false) }) (v := ?_) rfl (by kernel_rfl) (by kernel_rfl) (by kernel_rfl) (fun _ _ _ h => h) (Or.inl ⟨by rfl, ?_⟩) (by assumption) ?_
      rotate_left 1
      · intro w hSw
        try dsimp only at hSw
        go_simp
        try with_reducible rfl
      try simp only [Act.put, List.setIfInBounds_toArray, List.set_cons_zero, List.set_cons_succ]
      refine wpAnyH_take (i := 35) (oi := { dst := some 51, op := Op.binOp BinOp.neq 3 (Operand.tmp 45) (Operand.tmp 50) 3, type := 4, pos := "law.go:59", after := #[{ on := 29, ground := Ground.data }, { on := 34, ground := Ground.data }, { on := 24, ground := Ground.guard }], guard := some (24, false) }) (v := ?_) rfl (by kernel_rfl) (by kernel_rfl) (by kernel_rfl) (fun _ _ _ h => h) (Or.inl ⟨by rfl, ?_⟩) (by assumption) ?_
      rotate_left 1
      · intro w hSw
        try dsimp only at hSw
        go_simp
        try with_reducible rfl
      try simp only [Act.put, List.setIfInBounds_toArray, List.set_cons_zero, List.set_cons_succ]
      refine wpAnyH_take (i := 36) (oi := { dst := some 52, op := Op.pick (Operand.tmp 40) (Operand.const (Value.bool true)) (Operand.tmp 51), type := 4, pos := "law.go:59", after := #[{ on := 24, ground := Ground.data }, { on := 35, ground := Ground.data }], guard := none }) (v := ?_) rfl (by kernel_rfl) (by kernel_rfl) (by kernel_rfl) (fun _ _ _ h => h) (Or.inl ⟨by rfl, ?_⟩) (by assumption) ?_
      rotate_left 1
      · intro w hSw
        try dsimp only at hSw
        go_simp
        try with_reducible rfl
      try simp only [Act.put, List.setIfInBounds_toArray, List.set_cons_zero, List.set_cons_succ]
      refine wpAnyH_take (i := 37) (oi := { dst := some 53, op := Op.move (Operand.tmp 52), type := 4, pos := "law.go:59", after := #[{ on := 36, ground := Ground.data }, { on := 24, ground := Ground.chain }], guard := none }) (v := ?_) rfl (by kernel_rfl) (by kernel_rfl) (by kernel_rfl) (fun _ _ _ h => h) (Or.inl ⟨by rfl, ?_⟩) (by assumption) ?_
      rotate_left 1
      · intro w hSw
        try dsimp only at hSw
        go_simp
        try with_reducible rfl
      try simp only [Act.put, List.setIfInBounds_toArray, List.set_cons_zero, List.set_cons_succ]
      refine wpAnyH_take (i := 38) (oi := { dst := some 54, op := Op.move (Operand.tmp 0), type := 45, pos := "law.go:59", after := #[{ on := 37, ground := Ground.guard }], guard := some (37, false) }) (v := ?_) rfl (by kernel_rfl) (by kernel_rfl) (by kernel_rfl) (fun _ _ _ h => h) (Or.inl ⟨by rfl, ?_⟩) (by assumption) ?_
      rotate_left 1
      · intro w hSw
        try dsimp only at hSw
        go_simp
        try with_reducible rfl
      try simp only [Act.put, List.setIfInBounds_toArray, List.set_cons_zero, List.set_cons_succ]
      refine wpAnyH_take (i := 39) (oi := { dst := some 55, op := Op.move (Operand.tmp 5), type := 3, pos := "law.go:59", after := #[{ on := 37, ground := Ground.guard }], guard := some (37, false) }) (v := ?_) rfl (by kernel_rfl) (by kernel_rfl) (by kernel_rfl) (fun _ _ _ h => h) (Or.inl ⟨by rfl, ?_⟩) (by assumption) ?_
      rotate_left 1
      · intro w hSw
        try dsimp only at hSw
        go_simp
        try with_reducible rfl
      try simp only [Act.put, List.setIfInBounds_toArray, List.set_cons_zero, List.set_cons_succ]
      refine wpAnyH_take (i := 40) (oi := { dst := some 56, op := Op.indexAddr 45 (Operand.tmp 54) (Operand.tmp 55), type := 0, pos := "law.go:59", after := #[{ on := 38, ground := Ground.data }, { on := 39, ground := Ground.data }, { on := 37, ground := Ground.guard }], guard := some (37, false) }) (v := ?_) rfl (by kernel_rfl) (by kernel_rfl) (by kernel_rfl) (fun _ _ _ h => h) (Or.inl ⟨by rfl, ?_⟩) (by assumption) ?_
      rotate_left 1
      · intro w hSw
        try dsimp only at hSw
        go_simp
        try with_reducible rfl
      try simp only [Act.put, List.setIfInBounds_toArray, List.set_cons_zero, List.set_cons_succ]
      refine wpAnyH_take (i := 41) (oi := { dst := some 57, op := Op.fieldAddr 61 (Operand.tmp 56) 1, type := 0, pos := "law.go:59", after := #[{ on := 40, ground := Ground.data }, { on := 37, ground := Ground.guard }], guard := some (37, false) }) (v := ?_) rfl (by kernel_rfl) (by kernel_rfl) (by kernel_rfl) (fun _ _ _ h => h) (Or.inl ⟨by rfl, ?_⟩) (by assumption) ?_
      rotate_left 1
      · intro w hSw
        try dsimp only at hSw
        go_simp
        try with_reducible rfl
      try simp only [Act.put, List.setIfInBounds_toArray, List.set_cons_zero, List.set_cons_succ]
      refine wpAnyH_take (i := 42) (oi := { dst := some 58, op := Op.load 54 (Operand.tmp 57), type := 54, pos := "law.go:59", after := #[{ on := 41, ground := Ground.data }, { on := 37, ground := Ground.guard }], guard := some (37, false) }) (v := ?_) rfl (by kernel_rfl) (by kernel_rfl) (by kernel_rfl) (fun _ _ _ h => h) (Or.inl ⟨by rfl, ?_⟩) (by assumption) ?_
      rotate_left 1
      · intro w hSw
        try dsimp only at hSw
        go_simp
        try with_reducible rfl
      try simp only [Act.put, List.setIfInBounds_toArray, List.set_cons_zero, List.set_cons_succ]
      refine wpAnyH_take (i := 43) (oi := { dst := some 59, op := Op.move (Operand.tmp 1), type := 83, pos := "law.go:59", after := #[{ on := 37, ground := Ground.guard }], guard := some (37, false) }) (v := ?_) rfl (by kernel_rfl) (by kernel_rfl) (by kernel_rfl) (fun _ _ _ h => h) (Or.inl ⟨by rfl, ?_⟩) (by assumption) ?_
      rotate_left 1
      · intro w hSw
        try dsimp only at hSw
        go_simp
        try with_reducible rfl
      try simp only [Act.put, List.setIfInBounds_toArray, List.set_cons_zero, List.set_cons_succ]
      refine wpAnyH_take (i := 44) (oi := { dst := some 60, op := Op.move (Operand.tmp 5), type := 3, pos := "law.go:59", after := #[{ on := 37, ground := Ground.guard }], guard := some (37, false) }) (v := ?_) rfl (by kernel_rfl) (by kernel_rfl) (by kernel_rfl) (fun _ _ _ h => h) (Or.inl ⟨by rfl, ?_⟩) (by assumption) ?_
      rotate_left 1
      · intro w hSw
        try dsimp only at hSw
        go_simp
        try with_reducible rfl
      try simp only [Act.put, List.setIfInBounds_toArray, List.set_cons_zero, List.set_cons_succ]
      refine wpAnyH_take (i := 45) (oi := { dst := some 61, op := Op.indexAddr 83 (Operand.tmp 59) (Operand.tmp 60), type := 0, pos := "law.go:59", after := #[{ on := 43, ground := Ground.data }, { on := 44, ground := Ground.data }, { on := 37, ground := Ground.guard }], guard := some (37, false) }) (v := ?_) rfl (by kernel_rfl) (by kernel_rfl) (by kernel_rfl) (fun _ _ _ h => h) (Or.inl ⟨by rfl, ?_⟩) (by assumption) ?_
      rotate_left 1
      · intro w hSw
        try dsimp only at hSw
        go_simp
        try with_reducible rfl
      try simp only [Act.put, List.setIfInBounds_toArray, List.set_cons_zero, List.set_cons_succ]
      refine wpAnyH_take (i := 46) (oi := { dst := some 62, op := Op.fieldAddr 134 (Operand.tmp 61) 1, type := 0, pos := "law.go:59", after := #[{ on := 45, ground := Ground.data }, { on := 37, ground := Ground.guard }], guard := some (37, false) }) (v := ?_) rfl (by kernel_rfl) (by kernel_rfl) (by kernel_rfl) (fun _ _ _ h => h) (Or.inl ⟨by rfl, ?_⟩) (by assumption) ?_
      rotate_left 1
      · intro w hSw
        try dsimp only at hSw
        go_simp
        try with_reducible rfl
      try simp only [Act.put, List.setIfInBounds_toArray, List.set_cons_zero, List.set_cons_succ]
      refine wpAnyH_take (i := 47) (oi := { dst := some 63, op := Op.load 55 (Operand.tmp 62), type := 55, pos := "law.go:59", after := #[{ on := 46, ground := Ground.data }, { on := 37, ground := Ground.guard }], guard := some (37, false) }) (v := ?_) rfl (by kernel_rfl) (by kernel_rfl) (by kernel_rfl) (fun _ _ _ h => h) (Or.inl ⟨by rfl, ?_⟩) (by assumption) ?_
      rotate_left 1
      · intro w hSw
        try dsimp only at hSw
        go_simp
        try with_reducible rfl
      try simp only [Act.put, List.setIfInBounds_toArray, List.set_cons_zero, List.set_cons_succ]
      refine wpAnyH_ready (rs := [48]) (by kernel_rfl) (by simp) ?_
      refine AllReadyH.cons (o := { dst := some 64, op := Op.call { callee := Callee.value (Operand.func 79), args := #[Operand.tmp 58, Operand.tmp 63], argTypes := #[54, 55] }, type := 4, pos := "law.go:59", after := #[{ on := 42, ground := Ground.data }, { on := 47, ground := Ground.data }, { on := 37, ground := Ground.chain }, { on := 37, ground := Ground.guard }], guard := some (37, false) }) rfl (fun K hK => ?_) ?_
      rotate_left 1
      · exact AllReadyH.nil
      go_simp
      go_at_call 79
      refine (l_sameFrame x.fr w0 wd _ h3).mono ?_
      rintro r w5 ⟨rfl, h4⟩
      have F1 := fx_facts h4 i x HX.out
      unfold FxAt at F1
      go_simp
      refine hK.out _ _ (by with_reducible exact F1) (fun hHeld => ?_)
      clear hK K
      try simp only [Act.put, List.setIfInBounds_toArray, List.set_cons_zero, List.set_cons_succ]
      refine wpAnyH_take (i := 49) (oi := { dst := some 65, op := Op.unOp UnOp.not 4 (Operand.tmp 64), type := 4, pos := "law.go:59", after := #[{ on := 48, ground := Ground.data }, { on := 37, ground := Ground.guard }], guard := some (37, false) }) (v := ?_) rfl (by kernel_rfl) (by kernel_rfl) (by kernel_rfl) (fun _ _ _ h => h) (Or.inl ⟨by rfl, ?_⟩) (by assumption) ?_
      rotate_left 1
      · intro w hSw
        try dsimp only at hSw
        go_simp
        try with_reducible rfl
      try simp only [Act.put, List.setIfInBounds_toArray, List.set_cons_zero, List.set_cons_succ]
      refine wpAnyH_take (i := 50) (oi := { dst := some 66, op := Op.pick (Operand.tmp 53) (Operand.const (Value.bool true)) (Operand.tmp 65), type := 4, pos := "law.go:59", after := #[{ on := 37, ground := Ground.data }, { on := 49, ground := Ground.data }], guard := none }) (v := ?_) rfl (by kernel_rfl) (by kernel_rfl) (by kernel_rfl) (fun _ _ _ h => h) (Or.inl ⟨by rfl, ?_⟩) (by assumption) ?_
      rotate_left 1
      · intro w hSw
        try dsimp only at hSw
        go_simp
        try with_reducible rfl
      try simp only [Act.put, List.setIfInBounds_toArray, List.set_cons_zero, List.set_cons_succ]
      refine wpAnyH_done (by kernel_rfl) ?_ _
      clear F1 h3
      go_wp2
      go_roundw
      case rel => exact ⟨i + 1, by omega, by go_num, h4⟩
      case measure => simp [intOf]; omega
    · obtain rfl : i = n := by omega
      go_wp2
      go_ret
      exact ⟨rfl, h2⟩
end Go.Proofs.YtoophfokbioaaaaGreatDoor
