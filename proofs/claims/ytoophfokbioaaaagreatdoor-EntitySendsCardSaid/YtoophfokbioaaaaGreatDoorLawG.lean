/- The entity's laws: the same entities. -/
import Derived.Test.YtoophfokbioaaaaGreatDoorLawE
namespace Go.Proofs.YtoophfokbioaaaaGreatDoor
open Go.RowKit

/-! Views, compared -/
theorem flv_eqn (n : Nat) (hn : 2 ≤ n) (a b c g h a' b' c' g' h' : Int) (x y z x' y' z' : Bool) (w : World) :
    (Op.equalIn n 41 (.agg #[.int .i64 a, .int .i64 b, .int .i64 c, .bool x, .bool y, .bool z, .int .i64 g, .int .i64 h]) (.agg #[.int .i64 a', .int .i64 b', .int .i64 c', .bool x', .bool y', .bool z', .int .i64 g', .int .i64 h'])).run Tryz.prog w =
      .ok (a == a' && (b == b' && (c == c' && (x == x' && (y == y' && (z == z' && (g == g' && h == h'))))))) w := by
  obtain ⟨m, rfl⟩ : ∃ m, n = m + 2 := ⟨n - 2, by omega⟩
  rw [run_equalIn_agg (P := Tryz.prog) w (m + 1) 41 _ _ (by kernel_rfl) (by kernel_rfl)]
  go_simp
  repeat' split
  all_goals simp_all
theorem env_guard (op : BinOp) (x y : Operand) (xs ys : Array Value) (w : World) : (eqGuard op 43 x y (.agg xs) (.agg ys)).run Tryz.prog w = .ok () w := run_eqGuard_agg (P := Tryz.prog) w op 43 x y xs ys (by kernel_rfl)
theorem env_same (s t r u a b c g h : Int) (k m n x y z : Bool) (w : World) :
    (Op.equalIn 10000 43 (.agg #[.int .i64 s, .int .i64 t, .int .i64 r, .bool k, .bool m, .bool n, .int .i64 u, .int .i64 a, .int .i64 b, .int .i64 c, .bool x, .bool y, .bool z, .int .i64 g, .int .i64 h]) (.agg #[.int .i64 s, .int .i64 t, .int .i64 r, .bool k, .bool m, .bool n, .int .i64 u, .int .i64 a, .int .i64 b, .int .i64 c, .bool x, .bool y, .bool z, .int .i64 g, .int .i64 h])).run Tryz.prog w = .ok true w := by
  have hf : (Op.equalIn 9999 41 (.agg #[.int .i64 a, .int .i64 b, .int .i64 c, .bool x, .bool y, .bool z, .int .i64 g, .int .i64 h]) (.agg #[.int .i64 a, .int .i64 b, .int .i64 c, .bool x, .bool y, .bool z, .int .i64 g, .int .i64 h])).run Tryz.prog w = .ok true w := by
    rw [flv_eqn 9999 (by decide)]
    simp
  rw [run_equalIn_agg (P := Tryz.prog) w 9999 43 _ _ (by kernel_rfl) (by kernel_rfl)]
  go_simp

set_option maxRecDepth 100000 in
set_option maxHeartbeats 3200000 in
theorem l_sameEntity (e r : Nat) (x : En) (l : List Fx) (ok : x.fl.Ok) (w0 w : World) (R : HP) (h : St w0 w (EnAt e x * (RnAt r (x.setOut l) * R))) :
    Calls Tryz.prog 13 #[ptr e, ptr r] w fun q w' => q = .returned (.bool true) ∧ St w0 w' (EnAt e x * (RnAt r (x.setOut l) * R)) := by
  have hv := e_view e x ok w0 w _ h
  unfold En.view at hv
  have n2 := ok.q.len
  have n3 := ok.q.sl
  have heq := env_same
  have hgd := env_guard
  obtain ⟨ln, hln⟩ : ∃ n, x.fl.q.l.length = n := ⟨_, rfl⟩
  obtain ⟨un, hun⟩ : ∃ n, x.units.length = n := ⟨_, rfl⟩
  rw [hln, hun] at hv
  have hwr : IntKind.i64.wrap ((ln : Int) - x.fl.q.sent) = (ln : Int) - x.fl.q.sent := by rw [IntKind.wrap_i64]; omega
  clear h
  go_enter Tryz.func13, Tryz.ntmps13
  go_wp2_with fail
  refine hv.mono ?_
  rintro q w1 ⟨rfl, h1⟩
  clear hv
  obtain ⟨fp, uv, ov, h3⟩ := h1.f2.n_open
  obtain ⟨ua, uc, rfl, _, _⟩ := h3.f4.row_shape
  obtain ⟨qp, h4⟩ := h3.f3.f_open
  obtain ⟨lv, h5⟩ := h4.f2.q_open
  obtain ⟨la, lc, rfl, _, _⟩ := h5.f2.row_shape
  have hfin : ∀ w', St w0 w' (blk qp _ * (Row 9 1 (.slice la (x.setOut l).fl.q.l.length lc) (x.setOut l).fl.q.l.length (strs (x.setOut l).fl.q.l) * (blk fp _ * (blk r _ * (LAt TRx 11 Fx.cells ov (x.setOut l).out * (Row 9 1 (.slice ua (x.setOut l).units.length uc) (x.setOut l).units.length (strs (x.setOut l).units) * (EnAt e x * R))))))) → St w0 w' (EnAt e x * (RnAt r (x.setOut l) * R)) := fun w' h6 => (((h6.q_shut (q := x.fl.q) rfl rfl rfl rfl).f2.f_shut (s := x.fl) rfl rfl).b3.n_shut (x := x.setOut l) (fp := fp) (uv := .slice ua (x.setOut l).units.length uc) (ov := ov) rfl rfl rfl rfl rfl).f2
  have H1 := h5.alloc (.cells #[.int .i64 x.state, .int .i64 x.tei, .int .i64 x.tries, .bool x.asked, .bool x.t2, .bool x.t3, .int .i64 un, .int .i64 x.fl.vs, .int .i64 x.fl.va, .int .i64 x.fl.vr, .bool x.fl.peer, .bool x.fl.own, .bool x.fl.refused, .int .i64 x.fl.q.sent, .int .i64 ((ln : Int) - x.fl.q.sent)] 43)
  have H2z := H1.drew.alloc (.cells #[.int .i64 0, .int .i64 0, .int .i64 0, .bool false, .bool false, .bool false, .int .i64 0, .int .i64 0] 41)
  have H2 := ((((((((H2z.set 0 (.int .i64 x.fl.vs)).set 1 (.int .i64 x.fl.va)).set 2 (.int .i64 x.fl.vr)).set 3 (.bool x.fl.peer)).set 4 (.bool x.fl.own)).set 5 (.bool x.fl.refused)).set 6 (.int .i64 x.fl.q.sent)).set 7 (.int .i64 ((ln : Int) - x.fl.q.sent)))
  rw [set8] at H2
  have hfin2 := hfin _ H2.drop.drop
  rw [show (x.setOut l).units.length = un from hun, show (x.setOut l).fl.q.l.length = ln from hln] at H1 H2z H2
  have N2 := Lib.hid n2
  have N3 := Lib.hid n3
  clear h5 h4 h3 h1 hfin hln hun n2 n3 ok
  go_upto_region 2 with fail
  generalize hw1 : w1.alloc _ = wa at *
  generalize w1.heap.size = ga at *
  clear hw1
  simp only [List.append_eq, List.cons_append, List.nil_append]
  have p1 := ((H1.drew.drop).f4.cell 1).trans (show _ = some (Value.int .i64 x.state) from rfl)
  have p2 := ((H1.drew.drop).f4.cell 2).trans (show _ = some (Value.int .i64 x.tei) from rfl)
  have p3 := ((H1.drew.drop).f4.cell 3).trans (show _ = some (Value.int .i64 x.tries) from rfl)
  have p4 := ((H1.drew.drop).f4.cell 4).trans (show _ = some (Value.bool x.asked) from rfl)
  have p5 := ((H1.drew.drop).f4.cell 5).trans (show _ = some (Value.bool x.t2) from rfl)
  have p6 := ((H1.drew.drop).f4.cell 6).trans (show _ = some (Value.bool x.t3) from rfl)
  have p7 := ((H1.drew.drop).f4.cell 7).trans (show _ = some (Value.slice ua un uc) from rfl)
  have p8 := ((H1.drew.drop).f4.cell 8).trans (show _ = some (ptr fp) from rfl)
  have pa := ((H1.drew.drop).f3.cell 0).trans (show _ = some (Value.int .i64 x.fl.vs) from rfl)
  have pb := ((H1.drew.drop).f3.cell 1).trans (show _ = some (Value.int .i64 x.fl.va) from rfl)
  have pc := ((H1.drew.drop).f3.cell 2).trans (show _ = some (Value.int .i64 x.fl.vr) from rfl)
  have pd := ((H1.drew.drop).f3.cell 3).trans (show _ = some (Value.bool x.fl.peer) from rfl)
  have pe := ((H1.drew.drop).f3.cell 4).trans (show _ = some (Value.bool x.fl.own) from rfl)
  have pf := ((H1.drew.drop).f3.cell 5).trans (show _ = some (Value.bool x.fl.refused) from rfl)
  have pg := ((H1.drew.drop).f3.cell 7).trans (show _ = some (ptr qp) from rfl)
  have ph := ((H1.drew.drop).cell 1).trans (show _ = some (Value.slice la ln lc) from rfl)
  have pi := ((H1.drew.drop).cell 2).trans (show _ = some (Value.int .i64 x.fl.q.sent) from rfl)
  have q1 := ((H2z.drop.drop).f4.cell 1).trans (show _ = some (Value.int .i64 x.state) from rfl)
  have q2 := ((H2z.drop.drop).f4.cell 2).trans (show _ = some (Value.int .i64 x.tei) from rfl)
  have q3 := ((H2z.drop.drop).f4.cell 3).trans (show _ = some (Value.int .i64 x.tries) from rfl)
  have q4 := ((H2z.drop.drop).f4.cell 4).trans (show _ = some (Value.bool x.asked) from rfl)
  have q5 := ((H2z.drop.drop).f4.cell 5).trans (show _ = some (Value.bool x.t2) from rfl)
  have q6 := ((H2z.drop.drop).f4.cell 6).trans (show _ = some (Value.bool x.t3) from rfl)
  have q7 := ((H2z.drop.drop).f4.cell 7).trans (show _ = some (Value.slice ua un uc) from rfl)
  have q8 := ((H2z.drop.drop).f4.cell 8).trans (show _ = some (ptr fp) from rfl)
  have qa := ((H2z.drop.drop).f3.cell 0).trans (show _ = some (Value.int .i64 x.fl.vs) from rfl)
  have qb := ((H2z.drop.drop).f3.cell 1).trans (show _ = some (Value.int .i64 x.fl.va) from rfl)
  have qc := ((H2z.drop.drop).f3.cell 2).trans (show _ = some (Value.int .i64 x.fl.vr) from rfl)
  have qd := ((H2z.drop.drop).f3.cell 3).trans (show _ = some (Value.bool x.fl.peer) from rfl)
  have qe := ((H2z.drop.drop).f3.cell 4).trans (show _ = some (Value.bool x.fl.own) from rfl)
  have qf := ((H2z.drop.drop).f3.cell 5).trans (show _ = some (Value.bool x.fl.refused) from rfl)
  have qg := ((H2z.drop.drop).f3.cell 7).trans (show _ = some (ptr qp) from rfl)
  have qh := ((H2z.drop.drop).cell 1).trans (show _ = some (Value.slice la ln lc) from rfl)
  have qi := ((H2z.drop.drop).cell 2).trans (show _ = some (Value.int .i64 x.fl.q.sent) from rfl)
  have s1 := ((H2.drop.drop).f4.cell 1).trans (show _ = some (Value.int .i64 x.state) from rfl)
  have s2 := ((H2.drop.drop).f4.cell 2).trans (show _ = some (Value.int .i64 x.tei) from rfl)
  have s3 := ((H2.drop.drop).f4.cell 3).trans (show _ = some (Value.int .i64 x.tries) from rfl)
  have s4 := ((H2.drop.drop).f4.cell 4).trans (show _ = some (Value.bool x.asked) from rfl)
  have s5 := ((H2.drop.drop).f4.cell 5).trans (show _ = some (Value.bool x.t2) from rfl)
  have s6 := ((H2.drop.drop).f4.cell 6).trans (show _ = some (Value.bool x.t3) from rfl)
  have s7 := ((H2.drop.drop).f4.cell 7).trans (show _ = some (Value.slice ua un uc) from rfl)
  have s8 := ((H2.drop.drop).f4.cell 8).trans (show _ = some (ptr fp) from rfl)
  have sa := ((H2.drop.drop).f3.cell 0).trans (show _ = some (Value.int .i64 x.fl.vs) from rfl)
  have sb := ((H2.drop.drop).f3.cell 1).trans (show _ = some (Value.int .i64 x.fl.va) from rfl)
  have sc := ((H2.drop.drop).f3.cell 2).trans (show _ = some (Value.int .i64 x.fl.vr) from rfl)
  have sd := ((H2.drop.drop).f3.cell 3).trans (show _ = some (Value.bool x.fl.peer) from rfl)
  have se := ((H2.drop.drop).f3.cell 4).trans (show _ = some (Value.bool x.fl.own) from rfl)
  have sf := ((H2.drop.drop).f3.cell 5).trans (show _ = some (Value.bool x.fl.refused) from rfl)
  have sg := ((H2.drop.drop).f3.cell 7).trans (show _ = some (ptr qp) from rfl)
  have sh := ((H2.drop.drop).cell 1).trans (show _ = some (Value.slice la ln lc) from rfl)
  have si := ((H2.drop.drop).cell 2).trans (show _ = some (Value.int .i64 x.fl.q.sent) from rfl)
  have zc := H2z.cell
  have zf := H2z.free
  clear H1
  refine wp_region_held_drew (S := fun wx => wx.cell? ⟨r, 8, none⟩ = some (ptr fp) ∧ wx.cell? ⟨fp, 0, none⟩ = some (.int .i64 x.fl.vs) ∧ wx.cell? ⟨fp, 1, none⟩ = some (.int .i64 x.fl.va) ∧ wx.cell? ⟨fp, 2, none⟩ = some (.int .i64 x.fl.vr) ∧ wx.cell? ⟨fp, 3, none⟩ = some (.bool x.fl.peer) ∧ wx.cell? ⟨fp, 4, none⟩ = some (.bool x.fl.own) ∧ wx.cell? ⟨fp, 5, none⟩ = some (.bool x.fl.refused) ∧ wx.cell? ⟨fp, 7, none⟩ = some (ptr qp) ∧ wx.cell? ⟨qp, 1, none⟩ = some (.slice la ln lc) ∧ wx.cell? ⟨qp, 2, none⟩ = some (.int .i64 x.fl.q.sent)) (by kernel_rfl) ?_ (fun hHeld => ?_)
  · with_reducible exact ⟨p8, pa, pb, pc, pd, pe, pf, pg, ph, pi⟩
  clear H2z
  generalize wa.drew = wz at *
  refine wpAnyH_take (i := 0) (oi := { dst := some 9, op := Op.move (Operand.tmp 1), type := 27, pos := "law.go:69", after := #[], guard := none }) (v := ?_) rfl (by kernel_rfl) (by kernel_rfl) (by kernel_rfl) (fun _ _ _ h => h) (Or.inl ⟨by rfl, ?_⟩) (by assumption) ?_
  rotate_left 1
  · intro w hSw
    try dsimp only at hSw
    go_simp
    try with_reducible rfl
  try simp only [Act.put, List.setIfInBounds_toArray, List.set_cons_zero, List.set_cons_succ]
  refine wpAnyH_take (i := 1) (oi := { dst := some 10, op := Op.nilCheck (Operand.tmp 9), type := 0, pos := "law.go:69", after := #[{ on := 0, ground := Ground.data }], guard := none }) (v := ?_) rfl (by kernel_rfl) (by kernel_rfl) (by kernel_rfl) (fun _ _ _ h => h) (Or.inl ⟨by rfl, ?_⟩) (by assumption) ?_
  rotate_left 1
  · intro w hSw
    try dsimp only at hSw
    go_simp
    try with_reducible rfl
  try simp only [Act.put, List.setIfInBounds_toArray, List.set_cons_zero, List.set_cons_succ]
  refine wpAnyH_take (i := 2) (oi := { dst := some 11, op := Op.fieldAddr 85 (Operand.tmp 10) 8, type := 0, pos := "law.go:69", after := #[{ on := 1, ground := Ground.data }], guard := none }) (v := ?_) rfl (by kernel_rfl) (by kernel_rfl) (by kernel_rfl) (fun _ _ _ h => h) (Or.inl ⟨by rfl, ?_⟩) (by assumption) ?_
  rotate_left 1
  · intro w hSw
    try dsimp only at hSw
    go_simp
    try with_reducible rfl
  try simp only [Act.put, List.setIfInBounds_toArray, List.set_cons_zero, List.set_cons_succ]
  refine wpAnyH_take (i := 3) (oi := { dst := some 12, op := Op.load 81 (Operand.tmp 11), type := 81, pos := "law.go:69", after := #[{ on := 2, ground := Ground.data }], guard := none }) (v := ?_) rfl (by kernel_rfl) (by kernel_rfl) (by kernel_rfl) (fun _ _ _ h => h) (Or.inl ⟨by rfl, ?_⟩) (by assumption) ?_
  rotate_left 1
  · intro w hSw
    try dsimp only at hSw
    go_simp
    try with_reducible rfl
  try simp only [Act.put, List.setIfInBounds_toArray, List.set_cons_zero, List.set_cons_succ]
  refine wpAnyH_take (i := 4) (oi := { dst := some 13, op := Op.nilCheck (Operand.tmp 12), type := 0, pos := "law.go:69", after := #[{ on := 3, ground := Ground.data }], guard := none }) (v := ?_) rfl (by kernel_rfl) (by kernel_rfl) (by kernel_rfl) (fun _ _ _ h => h) (Or.inl ⟨by rfl, ?_⟩) (by assumption) ?_
  rotate_left 1
  · intro w hSw
    try dsimp only at hSw
    go_simp
    try with_reducible rfl
  try simp only [Act.put, List.setIfInBounds_toArray, List.set_cons_zero, List.set_cons_succ]
  refine wpAnyH_take (i := 5) (oi := { dst := some 14, op := Op.fieldAddr 88 (Operand.tmp 13) 0, type := 0, pos := "law.go:69", after := #[{ on := 4, ground := Ground.data }], guard := none }) (v := ?_) rfl (by kernel_rfl) (by kernel_rfl) (by kernel_rfl) (fun _ _ _ h => h) (Or.inl ⟨by rfl, ?_⟩) (by assumption) ?_
  rotate_left 1
  · intro w hSw
    try dsimp only at hSw
    go_simp
    try with_reducible rfl
  try simp only [Act.put, List.setIfInBounds_toArray, List.set_cons_zero, List.set_cons_succ]
  refine wpAnyH_take (i := 6) (oi := { dst := some 15, op := Op.load 3 (Operand.tmp 14), type := 3, pos := "law.go:69", after := #[{ on := 5, ground := Ground.data }], guard := none }) (v := ?_) rfl (by kernel_rfl) (by kernel_rfl) (by kernel_rfl) (fun _ _ _ h => h) (Or.inl ⟨by rfl, ?_⟩) (by assumption) ?_
  rotate_left 1
  · intro w hSw
    try dsimp only at hSw
    go_simp
    try with_reducible rfl
  try simp only [Act.put, List.setIfInBounds_toArray, List.set_cons_zero, List.set_cons_succ]
  refine wpAnyH_take (i := 7) (oi := { dst := some 16, op := Op.move (Operand.tmp 1), type := 27, pos := "law.go:69", after := #[], guard := none }) (v := ?_) rfl (by kernel_rfl) (by kernel_rfl) (by kernel_rfl) (fun _ _ _ h => h) (Or.inl ⟨by rfl, ?_⟩) (by assumption) ?_
  rotate_left 1
  · intro w hSw
    try dsimp only at hSw
    go_simp
    try with_reducible rfl
  try simp only [Act.put, List.setIfInBounds_toArray, List.set_cons_zero, List.set_cons_succ]
  refine wpAnyH_take (i := 8) (oi := { dst := some 17, op := Op.nilCheck (Operand.tmp 16), type := 0, pos := "law.go:69", after := #[{ on := 7, ground := Ground.data }], guard := none }) (v := ?_) rfl (by kernel_rfl) (by kernel_rfl) (by kernel_rfl) (fun _ _ _ h => h) (Or.inl ⟨by rfl, ?_⟩) (by assumption) ?_
  rotate_left 1
  · intro w hSw
    try dsimp only at hSw
    go_simp
    try with_reducible rfl
  try simp only [Act.put, List.setIfInBounds_toArray, List.set_cons_zero, List.set_cons_succ]
  refine wpAnyH_take (i := 9) (oi := { dst := some 18, op := Op.fieldAddr 85 (Operand.tmp 17) 8, type := 0, pos := "law.go:69", after := #[{ on := 8, ground := Ground.data }], guard := none }) (v := ?_) rfl (by kernel_rfl) (by kernel_rfl) (by kernel_rfl) (fun _ _ _ h => h) (Or.inl ⟨by rfl, ?_⟩) (by assumption) ?_
  rotate_left 1
  · intro w hSw
    try dsimp only at hSw
    go_simp
    try with_reducible rfl
  try simp only [Act.put, List.setIfInBounds_toArray, List.set_cons_zero, List.set_cons_succ]
  refine wpAnyH_take (i := 10) (oi := { dst := some 19, op := Op.load 81 (Operand.tmp 18), type := 81, pos := "law.go:69", after := #[{ on := 9, ground := Ground.data }], guard := none }) (v := ?_) rfl (by kernel_rfl) (by kernel_rfl) (by kernel_rfl) (fun _ _ _ h => h) (Or.inl ⟨by rfl, ?_⟩) (by assumption) ?_
  rotate_left 1
  · intro w hSw
    try dsimp only at hSw
    go_simp
    try with_reducible rfl
  try simp only [Act.put, List.setIfInBounds_toArray, List.set_cons_zero, List.set_cons_succ]
  refine wpAnyH_take (i := 11) (oi := { dst := some 20, op := Op.nilCheck (Operand.tmp 19), type := 0, pos := "law.go:69", after := #[{ on := 10, ground := Ground.data }], guard := none }) (v := ?_) rfl (by kernel_rfl) (by kernel_rfl) (by kernel_rfl) (fun _ _ _ h => h) (Or.inl ⟨by rfl, ?_⟩) (by assumption) ?_
  rotate_left 1
  · intro w hSw
    try dsimp only at hSw
    go_simp
    try with_reducible rfl
  try simp only [Act.put, List.setIfInBounds_toArray, List.set_cons_zero, List.set_cons_succ]
  refine wpAnyH_take (i := 12) (oi := { dst := some 21, op := Op.fieldAddr 88 (Operand.tmp 20) 1, type := 0, pos := "law.go:69", after := #[{ on := 11, ground := Ground.data }], guard := none }) (v := ?_) rfl (by kernel_rfl) (by kernel_rfl) (by kernel_rfl) (fun _ _ _ h => h) (Or.inl ⟨by rfl, ?_⟩) (by assumption) ?_
  rotate_left 1
  · intro w hSw
    try dsimp only at hSw
    go_simp
    try with_reducible rfl
  try simp only [Act.put, List.setIfInBounds_toArray, List.set_cons_zero, List.set_cons_succ]
  refine wpAnyH_take (i := 13) (oi := { dst := some 22, op := Op.load 3 (Operand.tmp 21), type := 3, pos := "law.go:69", after := #[{ on := 12, ground := Ground.data }], guard := none }) (v := ?_) rfl (by kernel_rfl) (by kernel_rfl) (by kernel_rfl) (fun _ _ _ h => h) (Or.inl ⟨by rfl, ?_⟩) (by assumption) ?_
  rotate_left 1
  · intro w hSw
    try dsimp only at hSw
    go_simp
    try with_reducible rfl
  try simp only [Act.put, List.setIfInBounds_toArray, List.set_cons_zero, List.set_cons_succ]
  refine wpAnyH_take (i := 14) (oi := { dst := some 23, op := Op.move (Operand.tmp 1), type := 27, pos := "law.go:69", after := #[], guard := none }) (v := ?_) rfl (by kernel_rfl) (by kernel_rfl) (by kernel_rfl) (fun _ _ _ h => h) (Or.inl ⟨by rfl, ?_⟩) (by assumption) ?_
  rotate_left 1
  · intro w hSw
    try dsimp only at hSw
    go_simp
    try with_reducible rfl
  try simp only [Act.put, List.setIfInBounds_toArray, List.set_cons_zero, List.set_cons_succ]
  refine wpAnyH_take (i := 15) (oi := { dst := some 24, op := Op.nilCheck (Operand.tmp 23), type := 0, pos := "law.go:69", after := #[{ on := 14, ground := Ground.data }], guard := none }) (v := ?_) rfl (by kernel_rfl) (by kernel_rfl) (by kernel_rfl) (fun _ _ _ h => h) (Or.inl ⟨by rfl, ?_⟩) (by assumption) ?_
  rotate_left 1
  · intro w hSw
    try dsimp only at hSw
    go_simp
    try with_reducible rfl
  try simp only [Act.put, List.setIfInBounds_toArray, List.set_cons_zero, List.set_cons_succ]
  refine wpAnyH_take (i := 16) (oi := { dst := some 25, op := Op.fieldAddr 85 (Operand.tmp 24) 8, type := 0, pos := "law.go:69", after := #[{ on := 15, ground := Ground.data }], guard := none }) (v := ?_) rfl (by kernel_rfl) (by kernel_rfl) (by kernel_rfl) (fun _ _ _ h => h) (Or.inl ⟨by rfl, ?_⟩) (by assumption) ?_
  rotate_left 1
  · intro w hSw
    try dsimp only at hSw
    go_simp
    try with_reducible rfl
  try simp only [Act.put, List.setIfInBounds_toArray, List.set_cons_zero, List.set_cons_succ]
  refine wpAnyH_take (i := 17) (oi := { dst := some 26, op := Op.load 81 (Operand.tmp 25), type := 81, pos := "law.go:69", after := #[{ on := 16, ground := Ground.data }], guard := none }) (v := ?_) rfl (by kernel_rfl) (by kernel_rfl) (by kernel_rfl) (fun _ _ _ h => h) (Or.inl ⟨by rfl, ?_⟩) (by assumption) ?_
  rotate_left 1
  · intro w hSw
    try dsimp only at hSw
    go_simp
    try with_reducible rfl
  try simp only [Act.put, List.setIfInBounds_toArray, List.set_cons_zero, List.set_cons_succ]
  refine wpAnyH_take (i := 18) (oi := { dst := some 27, op := Op.nilCheck (Operand.tmp 26), type := 0, pos := "law.go:69", after := #[{ on := 17, ground := Ground.data }], guard := none }) (v := ?_) rfl (by kernel_rfl) (by kernel_rfl) (by kernel_rfl) (fun _ _ _ h => h) (Or.inl ⟨by rfl, ?_⟩) (by assumption) ?_
  rotate_left 1
  · intro w hSw
    try dsimp only at hSw
    go_simp
    try with_reducible rfl
  try simp only [Act.put, List.setIfInBounds_toArray, List.set_cons_zero, List.set_cons_succ]
  refine wpAnyH_take (i := 19) (oi := { dst := some 28, op := Op.fieldAddr 88 (Operand.tmp 27) 2, type := 0, pos := "law.go:69", after := #[{ on := 18, ground := Ground.data }], guard := none }) (v := ?_) rfl (by kernel_rfl) (by kernel_rfl) (by kernel_rfl) (fun _ _ _ h => h) (Or.inl ⟨by rfl, ?_⟩) (by assumption) ?_
  rotate_left 1
  · intro w hSw
    try dsimp only at hSw
    go_simp
    try with_reducible rfl
  try simp only [Act.put, List.setIfInBounds_toArray, List.set_cons_zero, List.set_cons_succ]
  refine wpAnyH_take (i := 20) (oi := { dst := some 29, op := Op.load 3 (Operand.tmp 28), type := 3, pos := "law.go:69", after := #[{ on := 19, ground := Ground.data }], guard := none }) (v := ?_) rfl (by kernel_rfl) (by kernel_rfl) (by kernel_rfl) (fun _ _ _ h => h) (Or.inl ⟨by rfl, ?_⟩) (by assumption) ?_
  rotate_left 1
  · intro w hSw
    try dsimp only at hSw
    go_simp
    try with_reducible rfl
  try simp only [Act.put, List.setIfInBounds_toArray, List.set_cons_zero, List.set_cons_succ]
  refine wpAnyH_take (i := 21) (oi := { dst := some 30, op := Op.move (Operand.tmp 1), type := 27, pos := "law.go:69", after := #[], guard := none }) (v := ?_) rfl (by kernel_rfl) (by kernel_rfl) (by kernel_rfl) (fun _ _ _ h => h) (Or.inl ⟨by rfl, ?_⟩) (by assumption) ?_
  rotate_left 1
  · intro w hSw
    try dsimp only at hSw
    go_simp
    try with_reducible rfl
  try simp only [Act.put, List.setIfInBounds_toArray, List.set_cons_zero, List.set_cons_succ]
  refine wpAnyH_take (i := 22) (oi := { dst := some 31, op := Op.nilCheck (Operand.tmp 30), type := 0, pos := "law.go:69", after := #[{ on := 21, ground := Ground.data }], guard := none }) (v := ?_) rfl (by kernel_rfl) (by kernel_rfl) (by kernel_rfl) (fun _ _ _ h => h) (Or.inl ⟨by rfl, ?_⟩) (by assumption) ?_
  rotate_left 1
  · intro w hSw
    try dsimp only at hSw
    go_simp
    try with_reducible rfl
  try simp only [Act.put, List.setIfInBounds_toArray, List.set_cons_zero, List.set_cons_succ]
  refine wpAnyH_take (i := 23) (oi := { dst := some 32, op := Op.fieldAddr 85 (Operand.tmp 31) 8, type := 0, pos := "law.go:69", after := #[{ on := 22, ground := Ground.data }], guard := none }) (v := ?_) rfl (by kernel_rfl) (by kernel_rfl) (by kernel_rfl) (fun _ _ _ h => h) (Or.inl ⟨by rfl, ?_⟩) (by assumption) ?_
  rotate_left 1
  · intro w hSw
    try dsimp only at hSw
    go_simp
    try with_reducible rfl
  try simp only [Act.put, List.setIfInBounds_toArray, List.set_cons_zero, List.set_cons_succ]
  refine wpAnyH_take (i := 24) (oi := { dst := some 33, op := Op.load 81 (Operand.tmp 32), type := 81, pos := "law.go:69", after := #[{ on := 23, ground := Ground.data }], guard := none }) (v := ?_) rfl (by kernel_rfl) (by kernel_rfl) (by kernel_rfl) (fun _ _ _ h => h) (Or.inl ⟨by rfl, ?_⟩) (by assumption) ?_
  rotate_left 1
  · intro w hSw
    try dsimp only at hSw
    go_simp
    try with_reducible rfl
  try simp only [Act.put, List.setIfInBounds_toArray, List.set_cons_zero, List.set_cons_succ]
  refine wpAnyH_take (i := 25) (oi := { dst := some 34, op := Op.nilCheck (Operand.tmp 33), type := 0, pos := "law.go:69", after := #[{ on := 24, ground := Ground.data }], guard := none }) (v := ?_) rfl (by kernel_rfl) (by kernel_rfl) (by kernel_rfl) (fun _ _ _ h => h) (Or.inl ⟨by rfl, ?_⟩) (by assumption) ?_
  rotate_left 1
  · intro w hSw
    try dsimp only at hSw
    go_simp
    try with_reducible rfl
  try simp only [Act.put, List.setIfInBounds_toArray, List.set_cons_zero, List.set_cons_succ]
  refine wpAnyH_take (i := 26) (oi := { dst := some 35, op := Op.fieldAddr 88 (Operand.tmp 34) 3, type := 0, pos := "law.go:69", after := #[{ on := 25, ground := Ground.data }], guard := none }) (v := ?_) rfl (by kernel_rfl) (by kernel_rfl) (by kernel_rfl) (fun _ _ _ h => h) (Or.inl ⟨by rfl, ?_⟩) (by assumption) ?_
  rotate_left 1
  · intro w hSw
    try dsimp only at hSw
    go_simp
    try with_reducible rfl
  try simp only [Act.put, List.setIfInBounds_toArray, List.set_cons_zero, List.set_cons_succ]
  refine wpAnyH_take (i := 27) (oi := { dst := some 36, op := Op.load 4 (Operand.tmp 35), type := 4, pos := "law.go:69", after := #[{ on := 26, ground := Ground.data }], guard := none }) (v := ?_) rfl (by kernel_rfl) (by kernel_rfl) (by kernel_rfl) (fun _ _ _ h => h) (Or.inl ⟨by rfl, ?_⟩) (by assumption) ?_
  rotate_left 1
  · intro w hSw
    try dsimp only at hSw
    go_simp
    try with_reducible rfl
  try simp only [Act.put, List.setIfInBounds_toArray, List.set_cons_zero, List.set_cons_succ]
  refine wpAnyH_take (i := 28) (oi := { dst := some 37, op := Op.move (Operand.tmp 1), type := 27, pos := "law.go:69", after := #[], guard := none }) (v := ?_) rfl (by kernel_rfl) (by kernel_rfl) (by kernel_rfl) (fun _ _ _ h => h) (Or.inl ⟨by rfl, ?_⟩) (by assumption) ?_
  rotate_left 1
  · intro w hSw
    try dsimp only at hSw
    go_simp
    try with_reducible rfl
  try simp only [Act.put, List.setIfInBounds_toArray, List.set_cons_zero, List.set_cons_succ]
  refine wpAnyH_take (i := 29) (oi := { dst := some 38, op := Op.nilCheck (Operand.tmp 37), type := 0, pos := "law.go:69", after := #[{ on := 28, ground := Ground.data }], guard := none }) (v := ?_) rfl (by kernel_rfl) (by kernel_rfl) (by kernel_rfl) (fun _ _ _ h => h) (Or.inl ⟨by rfl, ?_⟩) (by assumption) ?_
  rotate_left 1
  · intro w hSw
    try dsimp only at hSw
    go_simp
    try with_reducible rfl
  try simp only [Act.put, List.setIfInBounds_toArray, List.set_cons_zero, List.set_cons_succ]
  refine wpAnyH_take (i := 30) (oi := { dst := some 39, op := Op.fieldAddr 85 (Operand.tmp 38) 8, type := 0, pos := "law.go:69", after := #[{ on := 29, ground := Ground.data }], guard := none }) (v := ?_) rfl (by kernel_rfl) (by kernel_rfl) (by kernel_rfl) (fun _ _ _ h => h) (Or.inl ⟨by rfl, ?_⟩) (by assumption) ?_
  rotate_left 1
  · intro w hSw
    try dsimp only at hSw
    go_simp
    try with_reducible rfl
  try simp only [Act.put, List.setIfInBounds_toArray, List.set_cons_zero, List.set_cons_succ]
  refine wpAnyH_take (i := 31) (oi := { dst := some 40, op := Op.load 81 (Operand.tmp 39), type := 81, pos := "law.go:69", after := #[{ on := 30, ground := Ground.data }], guard := none }) (v := ?_) rfl (by kernel_rfl) (by kernel_rfl) (by kernel_rfl) (fun _ _ _ h => h) (Or.inl ⟨by rfl, ?_⟩) (by assumption) ?_
  rotate_left 1
  · intro w hSw
    try dsimp only at hSw
    go_simp
    try with_reducible rfl
  try simp only [Act.put, List.setIfInBounds_toArray, List.set_cons_zero, List.set_cons_succ]
  refine wpAnyH_take (i := 32) (oi := { dst := some 41, op := Op.nilCheck (Operand.tmp 40), type := 0, pos := "law.go:69", after := #[{ on := 31, ground := Ground.data }], guard := none }) (v := ?_) rfl (by kernel_rfl) (by kernel_rfl) (by kernel_rfl) (fun _ _ _ h => h) (Or.inl ⟨by rfl, ?_⟩) (by assumption) ?_
  rotate_left 1
  · intro w hSw
    try dsimp only at hSw
    go_simp
    try with_reducible rfl
  try simp only [Act.put, List.setIfInBounds_toArray, List.set_cons_zero, List.set_cons_succ]
  refine wpAnyH_take (i := 33) (oi := { dst := some 42, op := Op.fieldAddr 88 (Operand.tmp 41) 4, type := 0, pos := "law.go:69", after := #[{ on := 32, ground := Ground.data }], guard := none }) (v := ?_) rfl (by kernel_rfl) (by kernel_rfl) (by kernel_rfl) (fun _ _ _ h => h) (Or.inl ⟨by rfl, ?_⟩) (by assumption) ?_
  rotate_left 1
  · intro w hSw
    try dsimp only at hSw
    go_simp
    try with_reducible rfl
  try simp only [Act.put, List.setIfInBounds_toArray, List.set_cons_zero, List.set_cons_succ]
  refine wpAnyH_take (i := 34) (oi := { dst := some 43, op := Op.load 4 (Operand.tmp 42), type := 4, pos := "law.go:69", after := #[{ on := 33, ground := Ground.data }], guard := none }) (v := ?_) rfl (by kernel_rfl) (by kernel_rfl) (by kernel_rfl) (fun _ _ _ h => h) (Or.inl ⟨by rfl, ?_⟩) (by assumption) ?_
  rotate_left 1
  · intro w hSw
    try dsimp only at hSw
    go_simp
    try with_reducible rfl
  try simp only [Act.put, List.setIfInBounds_toArray, List.set_cons_zero, List.set_cons_succ]
  refine wpAnyH_take (i := 35) (oi := { dst := some 44, op := Op.move (Operand.tmp 1), type := 27, pos := "law.go:69", after := #[], guard := none }) (v := ?_) rfl (by kernel_rfl) (by kernel_rfl) (by kernel_rfl) (fun _ _ _ h => h) (Or.inl ⟨by rfl, ?_⟩) (by assumption) ?_
  rotate_left 1
  · intro w hSw
    try dsimp only at hSw
    go_simp
    try with_reducible rfl
  try simp only [Act.put, List.setIfInBounds_toArray, List.set_cons_zero, List.set_cons_succ]
  refine wpAnyH_take (i := 36) (oi := { dst := some 45, op := Op.nilCheck (Operand.tmp 44), type := 0, pos := "law.go:69", after := #[{ on := 35, ground := Ground.data }], guard := none }) (v := ?_) rfl (by kernel_rfl) (by kernel_rfl) (by kernel_rfl) (fun _ _ _ h => h) (Or.inl ⟨by rfl, ?_⟩) (by assumption) ?_
  rotate_left 1
  · intro w hSw
    try dsimp only at hSw
    go_simp
    try with_reducible rfl
  try simp only [Act.put, List.setIfInBounds_toArray, List.set_cons_zero, List.set_cons_succ]
  refine wpAnyH_take (i := 37) (oi := { dst := some 46, op := Op.fieldAddr 85 (Operand.tmp 45) 8, type := 0, pos := "law.go:69", after := #[{ on := 36, ground := Ground.data }], guard := none }) (v := ?_) rfl (by kernel_rfl) (by kernel_rfl) (by kernel_rfl) (fun _ _ _ h => h) (Or.inl ⟨by rfl, ?_⟩) (by assumption) ?_
  rotate_left 1
  · intro w hSw
    try dsimp only at hSw
    go_simp
    try with_reducible rfl
  try simp only [Act.put, List.setIfInBounds_toArray, List.set_cons_zero, List.set_cons_succ]
  refine wpAnyH_take (i := 38) (oi := { dst := some 47, op := Op.load 81 (Operand.tmp 46), type := 81, pos := "law.go:69", after := #[{ on := 37, ground := Ground.data }], guard := none }) (v := ?_) rfl (by kernel_rfl) (by kernel_rfl) (by kernel_rfl) (fun _ _ _ h => h) (Or.inl ⟨by rfl, ?_⟩) (by assumption) ?_
  rotate_left 1
  · intro w hSw
    try dsimp only at hSw
    go_simp
    try with_reducible rfl
  try simp only [Act.put, List.setIfInBounds_toArray, List.set_cons_zero, List.set_cons_succ]
  refine wpAnyH_take (i := 39) (oi := { dst := some 48, op := Op.nilCheck (Operand.tmp 47), type := 0, pos := "law.go:69", after := #[{ on := 38, ground := Ground.data }], guard := none }) (v := ?_) rfl (by kernel_rfl) (by kernel_rfl) (by kernel_rfl) (fun _ _ _ h => h) (Or.inl ⟨by rfl, ?_⟩) (by assumption) ?_
  rotate_left 1
  · intro w hSw
    try dsimp only at hSw
    go_simp
    try with_reducible rfl
  try simp only [Act.put, List.setIfInBounds_toArray, List.set_cons_zero, List.set_cons_succ]
  refine wpAnyH_take (i := 40) (oi := { dst := some 49, op := Op.fieldAddr 88 (Operand.tmp 48) 5, type := 0, pos := "law.go:69", after := #[{ on := 39, ground := Ground.data }], guard := none }) (v := ?_) rfl (by kernel_rfl) (by kernel_rfl) (by kernel_rfl) (fun _ _ _ h => h) (Or.inl ⟨by rfl, ?_⟩) (by assumption) ?_
  rotate_left 1
  · intro w hSw
    try dsimp only at hSw
    go_simp
    try with_reducible rfl
  try simp only [Act.put, List.setIfInBounds_toArray, List.set_cons_zero, List.set_cons_succ]
  refine wpAnyH_take (i := 41) (oi := { dst := some 50, op := Op.load 4 (Operand.tmp 49), type := 4, pos := "law.go:69", after := #[{ on := 40, ground := Ground.data }], guard := none }) (v := ?_) rfl (by kernel_rfl) (by kernel_rfl) (by kernel_rfl) (fun _ _ _ h => h) (Or.inl ⟨by rfl, ?_⟩) (by assumption) ?_
  rotate_left 1
  · intro w hSw
    try dsimp only at hSw
    go_simp
    try with_reducible rfl
  try simp only [Act.put, List.setIfInBounds_toArray, List.set_cons_zero, List.set_cons_succ]
  refine wpAnyH_take (i := 42) (oi := { dst := some 51, op := Op.move (Operand.tmp 1), type := 27, pos := "law.go:69", after := #[], guard := none }) (v := ?_) rfl (by kernel_rfl) (by kernel_rfl) (by kernel_rfl) (fun _ _ _ h => h) (Or.inl ⟨by rfl, ?_⟩) (by assumption) ?_
  rotate_left 1
  · intro w hSw
    try dsimp only at hSw
    go_simp
    try with_reducible rfl
  try simp only [Act.put, List.setIfInBounds_toArray, List.set_cons_zero, List.set_cons_succ]
  refine wpAnyH_take (i := 43) (oi := { dst := some 52, op := Op.nilCheck (Operand.tmp 51), type := 0, pos := "law.go:69", after := #[{ on := 42, ground := Ground.data }], guard := none }) (v := ?_) rfl (by kernel_rfl) (by kernel_rfl) (by kernel_rfl) (fun _ _ _ h => h) (Or.inl ⟨by rfl, ?_⟩) (by assumption) ?_
  rotate_left 1
  · intro w hSw
    try dsimp only at hSw
    go_simp
    try with_reducible rfl
  try simp only [Act.put, List.setIfInBounds_toArray, List.set_cons_zero, List.set_cons_succ]
  refine wpAnyH_take (i := 44) (oi := { dst := some 53, op := Op.fieldAddr 85 (Operand.tmp 52) 8, type := 0, pos := "law.go:69", after := #[{ on := 43, ground := Ground.data }], guard := none }) (v := ?_) rfl (by kernel_rfl) (by kernel_rfl) (by kernel_rfl) (fun _ _ _ h => h) (Or.inl ⟨by rfl, ?_⟩) (by assumption) ?_
  rotate_left 1
  · intro w hSw
    try dsimp only at hSw
    go_simp
    try with_reducible rfl
  try simp only [Act.put, List.setIfInBounds_toArray, List.set_cons_zero, List.set_cons_succ]
  refine wpAnyH_take (i := 45) (oi := { dst := some 54, op := Op.load 81 (Operand.tmp 53), type := 81, pos := "law.go:69", after := #[{ on := 44, ground := Ground.data }], guard := none }) (v := ?_) rfl (by kernel_rfl) (by kernel_rfl) (by kernel_rfl) (fun _ _ _ h => h) (Or.inl ⟨by rfl, ?_⟩) (by assumption) ?_
  rotate_left 1
  · intro w hSw
    try dsimp only at hSw
    go_simp
    try with_reducible rfl
  try simp only [Act.put, List.setIfInBounds_toArray, List.set_cons_zero, List.set_cons_succ]
  refine wpAnyH_take (i := 46) (oi := { dst := some 55, op := Op.nilCheck (Operand.tmp 54), type := 0, pos := "law.go:69", after := #[{ on := 45, ground := Ground.data }], guard := none }) (v := ?_) rfl (by kernel_rfl) (by kernel_rfl) (by kernel_rfl) (fun _ _ _ h => h) (Or.inl ⟨by rfl, ?_⟩) (by assumption) ?_
  rotate_left 1
  · intro w hSw
    try dsimp only at hSw
    go_simp
    try with_reducible rfl
  try simp only [Act.put, List.setIfInBounds_toArray, List.set_cons_zero, List.set_cons_succ]
  refine wpAnyH_take (i := 47) (oi := { dst := some 56, op := Op.fieldAddr 88 (Operand.tmp 55) 7, type := 0, pos := "law.go:69", after := #[{ on := 46, ground := Ground.data }], guard := none }) (v := ?_) rfl (by kernel_rfl) (by kernel_rfl) (by kernel_rfl) (fun _ _ _ h => h) (Or.inl ⟨by rfl, ?_⟩) (by assumption) ?_
  rotate_left 1
  · intro w hSw
    try dsimp only at hSw
    go_simp
    try with_reducible rfl
  try simp only [Act.put, List.setIfInBounds_toArray, List.set_cons_zero, List.set_cons_succ]
  refine wpAnyH_take (i := 48) (oi := { dst := some 57, op := Op.load 86 (Operand.tmp 56), type := 86, pos := "law.go:69", after := #[{ on := 47, ground := Ground.data }], guard := none }) (v := ?_) rfl (by kernel_rfl) (by kernel_rfl) (by kernel_rfl) (fun _ _ _ h => h) (Or.inl ⟨by rfl, ?_⟩) (by assumption) ?_
  rotate_left 1
  · intro w hSw
    try dsimp only at hSw
    go_simp
    try with_reducible rfl
  try simp only [Act.put, List.setIfInBounds_toArray, List.set_cons_zero, List.set_cons_succ]
  refine wpAnyH_take (i := 49) (oi := { dst := some 58, op := Op.nilCheck (Operand.tmp 57), type := 0, pos := "law.go:69", after := #[{ on := 48, ground := Ground.data }], guard := none }) (v := ?_) rfl (by kernel_rfl) (by kernel_rfl) (by kernel_rfl) (fun _ _ _ h => h) (Or.inl ⟨by rfl, ?_⟩) (by assumption) ?_
  rotate_left 1
  · intro w hSw
    try dsimp only at hSw
    go_simp
    try with_reducible rfl
  try simp only [Act.put, List.setIfInBounds_toArray, List.set_cons_zero, List.set_cons_succ]
  refine wpAnyH_take (i := 50) (oi := { dst := some 59, op := Op.fieldAddr 90 (Operand.tmp 58) 2, type := 0, pos := "law.go:69", after := #[{ on := 49, ground := Ground.data }], guard := none }) (v := ?_) rfl (by kernel_rfl) (by kernel_rfl) (by kernel_rfl) (fun _ _ _ h => h) (Or.inl ⟨by rfl, ?_⟩) (by assumption) ?_
  rotate_left 1
  · intro w hSw
    try dsimp only at hSw
    go_simp
    try with_reducible rfl
  try simp only [Act.put, List.setIfInBounds_toArray, List.set_cons_zero, List.set_cons_succ]
  refine wpAnyH_take (i := 51) (oi := { dst := some 60, op := Op.load 3 (Operand.tmp 59), type := 3, pos := "law.go:69", after := #[{ on := 50, ground := Ground.data }], guard := none }) (v := ?_) rfl (by kernel_rfl) (by kernel_rfl) (by kernel_rfl) (fun _ _ _ h => h) (Or.inl ⟨by rfl, ?_⟩) (by assumption) ?_
  rotate_left 1
  · intro w hSw
    try dsimp only at hSw
    go_simp
    try with_reducible rfl
  try simp only [Act.put, List.setIfInBounds_toArray, List.set_cons_zero, List.set_cons_succ]
  refine wpAnyH_take (i := 52) (oi := { dst := some 61, op := Op.move (Operand.tmp 1), type := 27, pos := "law.go:69", after := #[], guard := none }) (v := ?_) rfl (by kernel_rfl) (by kernel_rfl) (by kernel_rfl) (fun _ _ _ h => h) (Or.inl ⟨by rfl, ?_⟩) (by assumption) ?_
  rotate_left 1
  · intro w hSw
    try dsimp only at hSw
    go_simp
    try with_reducible rfl
  try simp only [Act.put, List.setIfInBounds_toArray, List.set_cons_zero, List.set_cons_succ]
  refine wpAnyH_take (i := 53) (oi := { dst := some 62, op := Op.nilCheck (Operand.tmp 61), type := 0, pos := "law.go:69", after := #[{ on := 52, ground := Ground.data }], guard := none }) (v := ?_) rfl (by kernel_rfl) (by kernel_rfl) (by kernel_rfl) (fun _ _ _ h => h) (Or.inl ⟨by rfl, ?_⟩) (by assumption) ?_
  rotate_left 1
  · intro w hSw
    try dsimp only at hSw
    go_simp
    try with_reducible rfl
  try simp only [Act.put, List.setIfInBounds_toArray, List.set_cons_zero, List.set_cons_succ]
  refine wpAnyH_take (i := 54) (oi := { dst := some 63, op := Op.fieldAddr 85 (Operand.tmp 62) 8, type := 0, pos := "law.go:69", after := #[{ on := 53, ground := Ground.data }], guard := none }) (v := ?_) rfl (by kernel_rfl) (by kernel_rfl) (by kernel_rfl) (fun _ _ _ h => h) (Or.inl ⟨by rfl, ?_⟩) (by assumption) ?_
  rotate_left 1
  · intro w hSw
    try dsimp only at hSw
    go_simp
    try with_reducible rfl
  try simp only [Act.put, List.setIfInBounds_toArray, List.set_cons_zero, List.set_cons_succ]
  refine wpAnyH_take (i := 55) (oi := { dst := some 64, op := Op.load 81 (Operand.tmp 63), type := 81, pos := "law.go:69", after := #[{ on := 54, ground := Ground.data }], guard := none }) (v := ?_) rfl (by kernel_rfl) (by kernel_rfl) (by kernel_rfl) (fun _ _ _ h => h) (Or.inl ⟨by rfl, ?_⟩) (by assumption) ?_
  rotate_left 1
  · intro w hSw
    try dsimp only at hSw
    go_simp
    try with_reducible rfl
  try simp only [Act.put, List.setIfInBounds_toArray, List.set_cons_zero, List.set_cons_succ]
  refine wpAnyH_take (i := 56) (oi := { dst := some 65, op := Op.nilCheck (Operand.tmp 64), type := 0, pos := "law.go:69", after := #[{ on := 55, ground := Ground.data }], guard := none }) (v := ?_) rfl (by kernel_rfl) (by kernel_rfl) (by kernel_rfl) (fun _ _ _ h => h) (Or.inl ⟨by rfl, ?_⟩) (by assumption) ?_
  rotate_left 1
  · intro w hSw
    try dsimp only at hSw
    go_simp
    try with_reducible rfl
  try simp only [Act.put, List.setIfInBounds_toArray, List.set_cons_zero, List.set_cons_succ]
  refine wpAnyH_take (i := 57) (oi := { dst := some 66, op := Op.fieldAddr 88 (Operand.tmp 65) 7, type := 0, pos := "law.go:69", after := #[{ on := 56, ground := Ground.data }], guard := none }) (v := ?_) rfl (by kernel_rfl) (by kernel_rfl) (by kernel_rfl) (fun _ _ _ h => h) (Or.inl ⟨by rfl, ?_⟩) (by assumption) ?_
  rotate_left 1
  · intro w hSw
    try dsimp only at hSw
    go_simp
    try with_reducible rfl
  try simp only [Act.put, List.setIfInBounds_toArray, List.set_cons_zero, List.set_cons_succ]
  refine wpAnyH_take (i := 58) (oi := { dst := some 67, op := Op.load 86 (Operand.tmp 66), type := 86, pos := "law.go:69", after := #[{ on := 57, ground := Ground.data }], guard := none }) (v := ?_) rfl (by kernel_rfl) (by kernel_rfl) (by kernel_rfl) (fun _ _ _ h => h) (Or.inl ⟨by rfl, ?_⟩) (by assumption) ?_
  rotate_left 1
  · intro w hSw
    try dsimp only at hSw
    go_simp
    try with_reducible rfl
  try simp only [Act.put, List.setIfInBounds_toArray, List.set_cons_zero, List.set_cons_succ]
  refine wpAnyH_take (i := 59) (oi := { dst := some 68, op := Op.nilCheck (Operand.tmp 67), type := 0, pos := "law.go:69", after := #[{ on := 58, ground := Ground.data }], guard := none }) (v := ?_) rfl (by kernel_rfl) (by kernel_rfl) (by kernel_rfl) (fun _ _ _ h => h) (Or.inl ⟨by rfl, ?_⟩) (by assumption) ?_
  rotate_left 1
  · intro w hSw
    try dsimp only at hSw
    go_simp
    try with_reducible rfl
  try simp only [Act.put, List.setIfInBounds_toArray, List.set_cons_zero, List.set_cons_succ]
  refine wpAnyH_take (i := 60) (oi := { dst := some 69, op := Op.fieldAddr 90 (Operand.tmp 68) 1, type := 0, pos := "law.go:69", after := #[{ on := 59, ground := Ground.data }], guard := none }) (v := ?_) rfl (by kernel_rfl) (by kernel_rfl) (by kernel_rfl) (fun _ _ _ h => h) (Or.inl ⟨by rfl, ?_⟩) (by assumption) ?_
  rotate_left 1
  · intro w hSw
    try dsimp only at hSw
    go_simp
    try with_reducible rfl
  try simp only [Act.put, List.setIfInBounds_toArray, List.set_cons_zero, List.set_cons_succ]
  refine wpAnyH_take (i := 61) (oi := { dst := some 70, op := Op.load 78 (Operand.tmp 69), type := 78, pos := "law.go:69", after := #[{ on := 60, ground := Ground.data }], guard := none }) (v := ?_) rfl (by kernel_rfl) (by kernel_rfl) (by kernel_rfl) (fun _ _ _ h => h) (Or.inl ⟨by rfl, ?_⟩) (by assumption) ?_
  rotate_left 1
  · intro w hSw
    try dsimp only at hSw
    go_simp
    try with_reducible rfl
  try simp only [Act.put, List.setIfInBounds_toArray, List.set_cons_zero, List.set_cons_succ]
  refine wpAnyH_take (i := 62) (oi := { dst := some 71, op := Op.call { callee := Callee.builtin Builtin.len, args := #[Operand.tmp 70], argTypes := #[78] }, type := 3, pos := "law.go:69", after := #[{ on := 61, ground := Ground.data }], guard := none }) (v := ?_) rfl (by kernel_rfl) (by kernel_rfl) (by kernel_rfl) (fun _ _ _ h => h) (Or.inl ⟨by rfl, ?_⟩) (by assumption) ?_
  rotate_left 1
  · intro w hSw
    try dsimp only at hSw
    go_simp
    try with_reducible rfl
  try simp only [Act.put, List.setIfInBounds_toArray, List.set_cons_zero, List.set_cons_succ]
  refine wpAnyH_take (i := 63) (oi := { dst := some 72, op := Op.move (Operand.tmp 1), type := 27, pos := "law.go:69", after := #[], guard := none }) (v := ?_) rfl (by kernel_rfl) (by kernel_rfl) (by kernel_rfl) (fun _ _ _ h => h) (Or.inl ⟨by rfl, ?_⟩) (by assumption) ?_
  rotate_left 1
  · intro w hSw
    try dsimp only at hSw
    go_simp
    try with_reducible rfl
  try simp only [Act.put, List.setIfInBounds_toArray, List.set_cons_zero, List.set_cons_succ]
  refine wpAnyH_take (i := 64) (oi := { dst := some 73, op := Op.nilCheck (Operand.tmp 72), type := 0, pos := "law.go:69", after := #[{ on := 63, ground := Ground.data }], guard := none }) (v := ?_) rfl (by kernel_rfl) (by kernel_rfl) (by kernel_rfl) (fun _ _ _ h => h) (Or.inl ⟨by rfl, ?_⟩) (by assumption) ?_
  rotate_left 1
  · intro w hSw
    try dsimp only at hSw
    go_simp
    try with_reducible rfl
  try simp only [Act.put, List.setIfInBounds_toArray, List.set_cons_zero, List.set_cons_succ]
  refine wpAnyH_take (i := 65) (oi := { dst := some 74, op := Op.fieldAddr 85 (Operand.tmp 73) 8, type := 0, pos := "law.go:69", after := #[{ on := 64, ground := Ground.data }], guard := none }) (v := ?_) rfl (by kernel_rfl) (by kernel_rfl) (by kernel_rfl) (fun _ _ _ h => h) (Or.inl ⟨by rfl, ?_⟩) (by assumption) ?_
  rotate_left 1
  · intro w hSw
    try dsimp only at hSw
    go_simp
    try with_reducible rfl
  try simp only [Act.put, List.setIfInBounds_toArray, List.set_cons_zero, List.set_cons_succ]
  refine wpAnyH_take (i := 66) (oi := { dst := some 75, op := Op.load 81 (Operand.tmp 74), type := 81, pos := "law.go:69", after := #[{ on := 65, ground := Ground.data }], guard := none }) (v := ?_) rfl (by kernel_rfl) (by kernel_rfl) (by kernel_rfl) (fun _ _ _ h => h) (Or.inl ⟨by rfl, ?_⟩) (by assumption) ?_
  rotate_left 1
  · intro w hSw
    try dsimp only at hSw
    go_simp
    try with_reducible rfl
  try simp only [Act.put, List.setIfInBounds_toArray, List.set_cons_zero, List.set_cons_succ]
  refine wpAnyH_take (i := 67) (oi := { dst := some 76, op := Op.nilCheck (Operand.tmp 75), type := 0, pos := "law.go:69", after := #[{ on := 66, ground := Ground.data }], guard := none }) (v := ?_) rfl (by kernel_rfl) (by kernel_rfl) (by kernel_rfl) (fun _ _ _ h => h) (Or.inl ⟨by rfl, ?_⟩) (by assumption) ?_
  rotate_left 1
  · intro w hSw
    try dsimp only at hSw
    go_simp
    try with_reducible rfl
  try simp only [Act.put, List.setIfInBounds_toArray, List.set_cons_zero, List.set_cons_succ]
  refine wpAnyH_take (i := 68) (oi := { dst := some 77, op := Op.fieldAddr 88 (Operand.tmp 76) 7, type := 0, pos := "law.go:69", after := #[{ on := 67, ground := Ground.data }], guard := none }) (v := ?_) rfl (by kernel_rfl) (by kernel_rfl) (by kernel_rfl) (fun _ _ _ h => h) (Or.inl ⟨by rfl, ?_⟩) (by assumption) ?_
  rotate_left 1
  · intro w hSw
    try dsimp only at hSw
    go_simp
    try with_reducible rfl
  try simp only [Act.put, List.setIfInBounds_toArray, List.set_cons_zero, List.set_cons_succ]
  refine wpAnyH_take (i := 69) (oi := { dst := some 78, op := Op.load 86 (Operand.tmp 77), type := 86, pos := "law.go:69", after := #[{ on := 68, ground := Ground.data }], guard := none }) (v := ?_) rfl (by kernel_rfl) (by kernel_rfl) (by kernel_rfl) (fun _ _ _ h => h) (Or.inl ⟨by rfl, ?_⟩) (by assumption) ?_
  rotate_left 1
  · intro w hSw
    try dsimp only at hSw
    go_simp
    try with_reducible rfl
  try simp only [Act.put, List.setIfInBounds_toArray, List.set_cons_zero, List.set_cons_succ]
  refine wpAnyH_take (i := 70) (oi := { dst := some 79, op := Op.nilCheck (Operand.tmp 78), type := 0, pos := "law.go:69", after := #[{ on := 69, ground := Ground.data }], guard := none }) (v := ?_) rfl (by kernel_rfl) (by kernel_rfl) (by kernel_rfl) (fun _ _ _ h => h) (Or.inl ⟨by rfl, ?_⟩) (by assumption) ?_
  rotate_left 1
  · intro w hSw
    try dsimp only at hSw
    go_simp
    try with_reducible rfl
  try simp only [Act.put, List.setIfInBounds_toArray, List.set_cons_zero, List.set_cons_succ]
  refine wpAnyH_take (i := 71) (oi := { dst := some 80, op := Op.fieldAddr 90 (Operand.tmp 79) 2, type := 0, pos := "law.go:69", after := #[{ on := 70, ground := Ground.data }], guard := none }) (v := ?_) rfl (by kernel_rfl) (by kernel_rfl) (by kernel_rfl) (fun _ _ _ h => h) (Or.inl ⟨by rfl, ?_⟩) (by assumption) ?_
  rotate_left 1
  · intro w hSw
    try dsimp only at hSw
    go_simp
    try with_reducible rfl
  try simp only [Act.put, List.setIfInBounds_toArray, List.set_cons_zero, List.set_cons_succ]
  refine wpAnyH_take (i := 72) (oi := { dst := some 81, op := Op.load 3 (Operand.tmp 80), type := 3, pos := "law.go:69", after := #[{ on := 71, ground := Ground.data }], guard := none }) (v := ?_) rfl (by kernel_rfl) (by kernel_rfl) (by kernel_rfl) (fun _ _ _ h => h) (Or.inl ⟨by rfl, ?_⟩) (by assumption) ?_
  rotate_left 1
  · intro w hSw
    try dsimp only at hSw
    go_simp
    try with_reducible rfl
  try simp only [Act.put, List.setIfInBounds_toArray, List.set_cons_zero, List.set_cons_succ]
  refine wpAnyH_take (i := 73) (oi := { dst := some 82, op := Op.binOp BinOp.sub 3 (Operand.tmp 71) (Operand.tmp 81) 3, type := 3, pos := "law.go:69", after := #[{ on := 62, ground := Ground.data }, { on := 72, ground := Ground.data }], guard := none }) (v := ?_) rfl (by kernel_rfl) (by kernel_rfl) (by kernel_rfl) (fun _ _ _ h => h) (Or.inl ⟨by rfl, ?_⟩) (by assumption) ?_
  rotate_left 1
  · intro w hSw
    try dsimp only at hSw
    go_simp
    try with_reducible rfl
  try simp only [Act.put, List.setIfInBounds_toArray, List.set_cons_zero, List.set_cons_succ]
  refine wpAnyH_take (i := 74) (oi := { dst := some 83, op := Op.build 41 #[(0, Operand.tmp 15), (1, Operand.tmp 22), (2, Operand.tmp 29), (3, Operand.tmp 36), (4, Operand.tmp 43), (5, Operand.tmp 50), (6, Operand.tmp 60), (7, Operand.tmp 82)], type := 41, pos := "law.go:69", after := #[{ on := 6, ground := Ground.data }, { on := 13, ground := Ground.data }, { on := 20, ground := Ground.data }, { on := 27, ground := Ground.data }, { on := 34, ground := Ground.data }, { on := 41, ground := Ground.data }, { on := 51, ground := Ground.data }, { on := 73, ground := Ground.data }], guard := none }) (v := ?_) rfl (by kernel_rfl) (by kernel_rfl) (by kernel_rfl) (fun _ _ _ h => h) (Or.inl ⟨by rfl, ?_⟩) (by assumption) ?_
  rotate_left 1
  · intro w hSw
    try dsimp only at hSw
    go_simp
    try with_reducible rfl
  try simp only [Act.put, List.setIfInBounds_toArray, List.set_cons_zero, List.set_cons_succ]
  refine wpAnyH_ready (rs := [75]) (by kernel_rfl) (by simp) ?_
  refine AllReadyH.cons (o := { dst := some 6, op := Op.alloc 41, type := 0, pos := "law.go:69", after := #[], guard := none }) rfl (fun K hK => ?_) ?_
  rotate_left 1
  · exact AllReadyH.nil
  go_simp
  go_simp
  refine hK.out _ _ (by with_reducible exact ⟨q8, qa, qb, qc, qd, qe, qf, qg, qh, qi⟩) (fun hHeld => ?_)
  clear hK K
  try simp only [Act.put, List.setIfInBounds_toArray, List.set_cons_zero, List.set_cons_succ]
  clear p1 p2 p3 p4 p5 p6 p7 p8 pa pb pc pd pe pf pg ph pi
  clear q1 q2 q3 q4 q5 q6 q7 q8 qa qb qc qd qe qf qg qh qi
  generalize hwq : wz.alloc _ = wq at *
  generalize wz.heap.size = gb at *
  clear hwq
  refine wpAnyH_ready (rs := [76]) (by kernel_rfl) (by simp) ?_
  refine AllReadyH.cons (o := { dst := none, op := Op.store 41 (Operand.tmp 6) (Operand.tmp 83), type := 0, pos := "law.go:69", after := #[{ on := 75, ground := Ground.data }, { on := 74, ground := Ground.data }, { on := 0, ground := Ground.phase }, { on := 1, ground := Ground.phase }, { on := 2, ground := Ground.phase }, { on := 3, ground := Ground.phase }, { on := 4, ground := Ground.phase }, { on := 5, ground := Ground.phase }, { on := 6, ground := Ground.phase }, { on := 7, ground := Ground.phase }, { on := 8, ground := Ground.phase }, { on := 9, ground := Ground.phase }, { on := 10, ground := Ground.phase }, { on := 11, ground := Ground.phase }, { on := 12, ground := Ground.phase }, { on := 13, ground := Ground.phase }, { on := 14, ground := Ground.phase }, { on := 15, ground := Ground.phase }, { on := 16, ground := Ground.phase }, { on := 17, ground := Ground.phase }, { on := 18, ground := Ground.phase }, { on := 19, ground := Ground.phase }, { on := 20, ground := Ground.phase }, { on := 21, ground := Ground.phase }, { on := 22, ground := Ground.phase }, { on := 23, ground := Ground.phase }, { on := 24, ground := Ground.phase }, { on := 25, ground := Ground.phase }, { on := 26, ground := Ground.phase }, { on := 27, ground := Ground.phase }, { on := 28, ground := Ground.phase }, { on := 29, ground := Ground.phase }, { on := 30, ground := Ground.phase }, { on := 31, ground := Ground.phase }, { on := 32, ground := Ground.phase }, { on := 33, ground := Ground.phase }, { on := 34, ground := Ground.phase }, { on := 35, ground := Ground.phase }, { on := 36, ground := Ground.phase }, { on := 37, ground := Ground.phase }, { on := 38, ground := Ground.phase }, { on := 39, ground := Ground.phase }, { on := 40, ground := Ground.phase }, { on := 41, ground := Ground.phase }, { on := 42, ground := Ground.phase }, { on := 43, ground := Ground.phase }, { on := 44, ground := Ground.phase }, { on := 45, ground := Ground.phase }, { on := 46, ground := Ground.phase }, { on := 47, ground := Ground.phase }, { on := 48, ground := Ground.phase }, { on := 49, ground := Ground.phase }, { on := 50, ground := Ground.phase }, { on := 51, ground := Ground.phase }, { on := 52, ground := Ground.phase }, { on := 53, ground := Ground.phase }, { on := 54, ground := Ground.phase }, { on := 55, ground := Ground.phase }, { on := 56, ground := Ground.phase }, { on := 57, ground := Ground.phase }, { on := 58, ground := Ground.phase }, { on := 59, ground := Ground.phase }, { on := 60, ground := Ground.phase }, { on := 61, ground := Ground.phase }, { on := 62, ground := Ground.phase }, { on := 63, ground := Ground.phase }, { on := 64, ground := Ground.phase }, { on := 65, ground := Ground.phase }, { on := 66, ground := Ground.phase }, { on := 67, ground := Ground.phase }, { on := 68, ground := Ground.phase }, { on := 69, ground := Ground.phase }, { on := 70, ground := Ground.phase }, { on := 71, ground := Ground.phase }, { on := 72, ground := Ground.phase }, { on := 73, ground := Ground.phase }, { on := 74, ground := Ground.phase }, { on := 75, ground := Ground.phase }], guard := none }) rfl (fun K hK => ?_) ?_
  rotate_left 1
  · exact AllReadyH.nil
  go_simp
  go_simp
  refine hK.out _ _ (by with_reducible exact ⟨s8, sa, sb, sc, sd, se, sf, sg, sh, si⟩) (fun hHeld => ?_)
  clear hK K
  try simp only [Act.put, List.setIfInBounds_toArray, List.set_cons_zero, List.set_cons_succ]
  refine wpAnyH_done (by kernel_rfl) ?_ _
  clear s1 s2 s3 s4 s5 s6 s7 s8 sa sb sc sd se sf sg sh si zc zf
  generalize ((((((((wq.setCell ⟨gb, 0, none⟩ (.int .i64 x.fl.vs)).setCell ⟨gb, 1, none⟩ (.int .i64 x.fl.va)).setCell ⟨gb, 2, none⟩ (.int .i64 x.fl.vr)).setCell ⟨gb, 3, none⟩ (.bool x.fl.peer)).setCell ⟨gb, 4, none⟩ (.bool x.fl.own)).setCell ⟨gb, 5, none⟩ (.bool x.fl.refused)).setCell ⟨gb, 6, none⟩ (.int .i64 x.fl.q.sent)).setCell ⟨gb, 7, none⟩ (.int .i64 ((ln : Int) - x.fl.q.sent))) = wb at *
  go_upto_region 3 with fail
  have p1 := ((H2.drop.drop).f4.cell 1).trans (show _ = some (Value.int .i64 x.state) from rfl)
  have p2 := ((H2.drop.drop).f4.cell 2).trans (show _ = some (Value.int .i64 x.tei) from rfl)
  have p3 := ((H2.drop.drop).f4.cell 3).trans (show _ = some (Value.int .i64 x.tries) from rfl)
  have p4 := ((H2.drop.drop).f4.cell 4).trans (show _ = some (Value.bool x.asked) from rfl)
  have p5 := ((H2.drop.drop).f4.cell 5).trans (show _ = some (Value.bool x.t2) from rfl)
  have p6 := ((H2.drop.drop).f4.cell 6).trans (show _ = some (Value.bool x.t3) from rfl)
  have p7 := ((H2.drop.drop).f4.cell 7).trans (show _ = some (Value.slice ua un uc) from rfl)
  have p8 := ((H2.drop.drop).f4.cell 8).trans (show _ = some (ptr fp) from rfl)
  have pa := ((H2.drop.drop).f3.cell 0).trans (show _ = some (Value.int .i64 x.fl.vs) from rfl)
  have pb := ((H2.drop.drop).f3.cell 1).trans (show _ = some (Value.int .i64 x.fl.va) from rfl)
  have pc := ((H2.drop.drop).f3.cell 2).trans (show _ = some (Value.int .i64 x.fl.vr) from rfl)
  have pd := ((H2.drop.drop).f3.cell 3).trans (show _ = some (Value.bool x.fl.peer) from rfl)
  have pe := ((H2.drop.drop).f3.cell 4).trans (show _ = some (Value.bool x.fl.own) from rfl)
  have pf := ((H2.drop.drop).f3.cell 5).trans (show _ = some (Value.bool x.fl.refused) from rfl)
  have pg := ((H2.drop.drop).f3.cell 7).trans (show _ = some (ptr qp) from rfl)
  have ph := ((H2.drop.drop).cell 1).trans (show _ = some (Value.slice la ln lc) from rfl)
  have pi := ((H2.drop.drop).cell 2).trans (show _ = some (Value.int .i64 x.fl.q.sent) from rfl)
  have cv := H2.f2.cell
  have cf := H2.cell
  have HF := Lib.hid hfin2
  clear H2 hfin2
  go_quiet (fail)
  go_wp2
  go_ret
  exact ⟨rfl, HF.out.drewN nq⟩
end Go.Proofs.YtoophfokbioaaaaGreatDoor
