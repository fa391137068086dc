/- Messages of TEI management: teimsg.Put, Get, Frame, Of. -/
import Derived.Test.YtnnahljdhdippaaGreatDoorB15
import Derived.Test.YtnnahljdhdippaaGreatDoorB14
namespace Go.Proofs.YtnnahljdhdippaaGreatDoor
open Go.RowKit

abbrev TTm : TypeId := 81
set_option maxRecDepth 100000 in
theorem m_put (m : Tm) (w0 w : World) (R : HP) (h : St w0 w R) :
    Calls Tryz.prog 145 #[.agg m.cells.toArray] w fun e w' => e = .returned (.tuple #[.string m.oct, .int .i64 m.bad]) ∧ St w0 w' R := by
  obtain ⟨ty, ri, ai⟩ := m
  simp only [Tm.cells]
  have h1 := (h.alloc (.cells #[.int .i64 ty, .int .i64 ri, .int .i64 ai] TTm)).drop
  by_cases a : ty < 1
  · have hbd : Tm.bad ⟨ty, ri, ai⟩ = 4 := by
      show (if ty < 1 ∨ 7 < ty then (4 : Int) else if ri < 0 ∨ 65536 ≤ ri then 2 else if 0 ≤ ai ∧ ai ≤ 127 then 0 else 2) = 4
      rw [if_pos (.inl a)]
    have hoc : Tm.oct ⟨ty, ri, ai⟩ = noStr := by
      unfold Tm.oct
      rw [hbd, if_neg (by decide)]
    rw [hbd, hoc]
    clear hbd hoc
    go_enter Tryz.func145, Tryz.ntmps145
    go_wp2
    go_ret2
    exact ⟨rfl, h1⟩
  by_cases b : 7 < ty
  · have hbd : Tm.bad ⟨ty, ri, ai⟩ = 4 := by
      show (if ty < 1 ∨ 7 < ty then (4 : Int) else if ri < 0 ∨ 65536 ≤ ri then 2 else if 0 ≤ ai ∧ ai ≤ 127 then 0 else 2) = 4
      rw [if_pos (.inr b)]
    have hoc : Tm.oct ⟨ty, ri, ai⟩ = noStr := by
      unfold Tm.oct
      rw [hbd, if_neg (by decide)]
    rw [hbd, hoc]
    clear hbd hoc
    go_enter Tryz.func145, Tryz.ntmps145
    go_wp2
    go_ret2
    exact ⟨rfl, h1⟩
  have a' : 1 ≤ ty := by omega
  have b' : ty ≤ 7 := by omega
  by_cases c : ri < 0
  · have hbd : Tm.bad ⟨ty, ri, ai⟩ = 2 := by
      show (if ty < 1 ∨ 7 < ty then (4 : Int) else if ri < 0 ∨ 65536 ≤ ri then 2 else if 0 ≤ ai ∧ ai ≤ 127 then 0 else 2) = 2
      rw [if_neg (by omega), if_pos (.inl c)]
    have hoc : Tm.oct ⟨ty, ri, ai⟩ = noStr := by
      unfold Tm.oct
      rw [hbd, if_neg (by decide)]
    rw [hbd, hoc]
    clear hbd hoc
    go_enter Tryz.func145, Tryz.ntmps145
    go_wp2
    go_ret2
    exact ⟨rfl, h1⟩
  by_cases d : 65536 ≤ ri
  · have hbd : Tm.bad ⟨ty, ri, ai⟩ = 2 := by
      show (if ty < 1 ∨ 7 < ty then (4 : Int) else if ri < 0 ∨ 65536 ≤ ri then 2 else if 0 ≤ ai ∧ ai ≤ 127 then 0 else 2) = 2
      rw [if_neg (by omega), if_pos (.inr d)]
    have hoc : Tm.oct ⟨ty, ri, ai⟩ = noStr := by
      unfold Tm.oct
      rw [hbd, if_neg (by decide)]
    rw [hbd, hoc]
    clear hbd hoc
    go_enter Tryz.func145, Tryz.ntmps145
    go_wp2
    go_ret2
    exact ⟨rfl, h1⟩
  have c' : 0 ≤ ri := by omega
  have d' : ri < 65536 := by omega
  have h2 := h.alloc (.cells #[.int .i64 ty, .int .i64 ri, .int .i64 ai] TTm)
  have h3 := (h2.alloc (.cells #[.int .i64 1, .int .i64 1, .int .i64 7, .int .i64 ai] 336))
  have h4 := St.row_mk (xs := pairC [(1, 1), (7, ai)]) (n := 2) (cap := 2) (sz := 2) (off := 0) h3 rfl (by decide) (by decide) (by simp) (fun j hj => by match j, hj with | 0, _ => rfl | 1, _ => rfl | 2, _ => rfl | 3, _ => rfl)
  have hs : (w.alloc (.cells #[.int .i64 ty, .int .i64 ri, .int .i64 ai] TTm)).heap.size = w.heap.size + 1 := by simp
  rw [hs] at h4
  have hp := b_pack [(1, 1), (7, ai)] _ w0 _ _ h4 (by simp)
  rw [packs_17] at hp
  clear h1 h2 h3 h4 hs
  by_cases g : 0 ≤ ai ∧ ai ≤ 127
  · rw [if_pos g] at hp
    have hbd : Tm.bad ⟨ty, ri, ai⟩ = 0 := by
      show (if ty < 1 ∨ 7 < ty then (4 : Int) else if ri < 0 ∨ 65536 ≤ ri then 2 else if 0 ≤ ai ∧ ai ≤ 127 then 0 else 2) = 0
      rw [if_neg (by omega), if_neg (by omega), if_pos g]
    have hoc : Tm.oct ⟨ty, ri, ai⟩ = octets [15, ri / 256, ri % 256, ty, 2 * ai + 1] := by
      unfold Tm.oct
      rw [if_pos hbd]
    rw [hbd, hoc]
    clear hbd hoc
    go_enter Tryz.func145, Tryz.ntmps145
    go_wp2_with fail
    refine hp.mono ?_
    rintro e w1 ⟨rfl, h5⟩
    have h6 := h5.drop
    have c := h6.cell
    clear hp
    have r1 : 0 ≤ ri / 256 := by omega
    have r2 : ri / 256 < 256 := by omega
    have r3 : 0 ≤ ri % 256 := by omega
    have r4 : ri % 256 < 256 := by omega
    have hc := run_octets (P := Tryz.prog) (src := 121) (dst := 9) (e := 5) Tryz.underlying121 Tryz.underlying5 Tryz.underlying9 (w1.alloc (.cells #[.int .u8 15, .int .u8 (ri / 256), .int .u8 (ri % 256), .int .u8 ty, .int .u8 (2 * ai + 1)] 5)) ⟨w1.heap.size, 0, none⟩ 5 [15, ri / 256, ri % 256, ty, 2 * ai + 1] 5 rfl
      (by intro n hn; simp at hn; omega) (by intro j hj; rw [add_none]; match j, hj with | 0, _ => simp | 1, _ => simp | 2, _ => simp | 3, _ => simp | 4, _ => simp)
    clear r1 r2 r3 r4
    go_wp2
    go_ret2
    exact ⟨rfl, (h6.alloc _).drop.drop⟩
  · rw [if_neg g] at hp
    have hbd : Tm.bad ⟨ty, ri, ai⟩ = 2 := by
      show (if ty < 1 ∨ 7 < ty then (4 : Int) else if ri < 0 ∨ 65536 ≤ ri then 2 else if 0 ≤ ai ∧ ai ≤ 127 then 0 else 2) = 2
      rw [if_neg (by omega), if_neg (by omega), if_neg g]
    have hoc : Tm.oct ⟨ty, ri, ai⟩ = noStr := by
      unfold Tm.oct
      rw [hbd, if_neg (by decide)]
    rw [hbd, hoc]
    clear hbd hoc
    go_enter Tryz.func145, Tryz.ntmps145
    go_wp2_with fail
    refine hp.mono ?_
    rintro e w1 ⟨rfl, h5⟩
    go_wp2
    go_ret2
    exact ⟨rfl, h5.drop.drop⟩
theorem t_from (t : Int) (w : World) : Calls Tryz.prog 62 #[.int .i64 t] w fun e w' => e = .returned (.bool (fromNet t)) ∧ w = w' := by
  unfold fromNet
  by_cases a : t = 2
  · subst a
    go_enter Tryz.func62, Tryz.ntmps62
    go_wp2
    go_ret
    exact ⟨rfl, rfl⟩
  have qa : (t == 2) = false := by simp [a]
  by_cases b : t = 3
  · subst b
    go_enter Tryz.func62, Tryz.ntmps62
    go_wp2
    go_ret
    exact ⟨rfl, rfl⟩
  have qb : (t == 3) = false := by simp [b]
  by_cases c : t = 4
  · subst c
    go_enter Tryz.func62, Tryz.ntmps62
    go_wp2
    go_ret
    exact ⟨rfl, rfl⟩
  have qc : (t == 4) = false := by simp [c]
  by_cases d : t = 6
  · subst d
    go_enter Tryz.func62, Tryz.ntmps62
    go_wp2
    go_ret
    exact ⟨rfl, rfl⟩
  have qd : (t == 6) = false := by simp [d]
  rw [qa, qb, qc, qd]
  clear a b c d
  go_enter Tryz.func62, Tryz.ntmps62
  go_wp2
  go_ret
  exact ⟨rfl, rfl⟩
def LinkAt (w : World) : Prop := w.cell? ⟨0, 0, none⟩ = some (.int .i64 63) ∧ w.cell? ⟨0, 1, none⟩ = some (.int .i64 127)
theorem or_oct (a b : Nat) (ha : a < 256) (hb : b < 256) : bits .or .i64 ((a : Int) * 256) (b : Int) = 256 * (a : Int) + (b : Int) := by
  have e1 : (BitVec.ofInt 64 ((a : Int) * 256)).toNat = a * 256 := by rw [BitVec.toNat_ofInt]; omega
  have e2 : (BitVec.ofInt 64 (b : Int)).toNat = b := by rw [BitVec.toNat_ofInt]; omega
  have key : (BitVec.ofInt 64 ((a : Int) * 256) ||| BitVec.ofInt 64 (b : Int)).toNat = a * 256 + b := by
    rw [BitVec.toNat_or, e1, e2]
    have := Nat.shiftLeft_add_eq_or_of_lt (i := 8) (b := b) (by omega) a
    rw [Nat.shiftLeft_eq] at this
    exact this.symm
  show IntKind.i64.wrap ((BitVec.ofInt 64 ((a : Int) * 256) ||| BitVec.ofInt 64 (b : Int)).toNat : Nat) = _
  rw [key, IntKind.wrap_i64]
  omega
set_option maxRecDepth 100000 in
set_option maxHeartbeats 1600000 in
theorem m_get (s : ByteArray) (w0 w : World) (R : HP) (h : St w0 w R) (hs : s.size ≤ 1000000000) :
    Calls Tryz.prog 61 #[.string s] w fun e w' => e = .returned (.tuple #[.agg (tmG s).1.cells.toArray, .int .i64 (tmG s).2]) ∧ St w0 w' R := by
  obtain ⟨n, hn⟩ : ∃ n, s.size = n := ⟨_, rfl⟩
  have h1 := h.alloc (.cells #[.int .i64 0, .int .i64 0, .int .i64 0] TTm)
  unfold tmG
  rw [hn] at hs ⊢
  have c := h1.cell
  have f := h1.free
  by_cases a : n < 5
  · rw [if_pos a]
    have qa : decide (n < 5) = true := decide_eq_true a
    go_enter Tryz.func61, Tryz.ntmps61
    go_upto_region 2 with fail
    generalize w.alloc _ = wa at *
    generalize w.heap.size = ga at *
    have h9 := (((h1.set 0 (.int .i64 0)).set 1 (.int .i64 0)).set 2 (.int .i64 0))
    go_wp2
    have cr := h9.cell
    refine bodyPost_ret (v := .tuple #[.agg #[.int .i64 0, .int .i64 0, .int .i64 0], .int .i64 3]) (by simp [results, Tryz.results61, go_sem, cr]) rfl ⟨rfl, h9.drop⟩
  have qa : decide (n < 5) = false := decide_eq_false a
  rw [if_neg a]
  by_cases b : 5 < n
  · rw [if_pos b]
    have qb : decide (5 < n) = true := decide_eq_true b
    go_enter Tryz.func61, Tryz.ntmps61
    go_upto_region 4 with fail
    generalize w.alloc _ = wa at *
    generalize w.heap.size = ga at *
    have h9 := (((h1.set 0 (.int .i64 0)).set 1 (.int .i64 0)).set 2 (.int .i64 0))
    go_wp2
    have cr := h9.cell
    refine bodyPost_ret (v := .tuple #[.agg #[.int .i64 0, .int .i64 0, .int .i64 0], .int .i64 5]) (by simp [results, Tryz.results61, go_sem, cr]) rfl ⟨rfl, h9.drop⟩
  have qb : decide (5 < n) = false := decide_eq_false b
  rw [if_neg b]
  have i0 : ∀ w, (Instr.index 9 (.string s) (.int .i64 0)).run Tryz.prog w = .ok (.int .u8 (byteAt s 0)) w := str_at s 0 (by omega)
  have i1 : ∀ w, (Instr.index 9 (.string s) (.int .i64 1)).run Tryz.prog w = .ok (.int .u8 (byteAt s 1)) w := str_at s 1 (by omega)
  have i2 : ∀ w, (Instr.index 9 (.string s) (.int .i64 2)).run Tryz.prog w = .ok (.int .u8 (byteAt s 2)) w := str_at s 2 (by omega)
  have i3 : ∀ w, (Instr.index 9 (.string s) (.int .i64 3)).run Tryz.prog w = .ok (.int .u8 (byteAt s 3)) w := str_at s 3 (by omega)
  have i4 : ∀ w, (Instr.index 9 (.string s) (.int .i64 4)).run Tryz.prog w = .ok (.int .u8 (byteAt s 4)) w := str_at s 4 (by omega)
  obtain ⟨p0, r0⟩ := byteAt_range s 0
  obtain ⟨p1, r1⟩ := byteAt_range s 1
  obtain ⟨p2, r2⟩ := byteAt_range s 2
  obtain ⟨p3, r3⟩ := byteAt_range s 3
  obtain ⟨p4, r4⟩ := byteAt_range s 4
  generalize byteAt s 0 = x0 at *
  generalize byteAt s 1 = x1 at *
  generalize byteAt s 2 = x2 at *
  generalize byteAt s 3 = x3 at *
  generalize byteAt s 4 = x4 at *
  have u4 := u8_and1 p4 r4
  have W1 : IntKind.i64.wrap x1 = x1 := by rw [IntKind.wrap_i64]; omega
  have W2 : IntKind.i64.wrap x2 = x2 := by rw [IntKind.wrap_i64]; omega
  have W3 : IntKind.i64.wrap x3 = x3 := by rw [IntKind.wrap_i64]; omega
  have W4 : IntKind.i64.wrap (x1 * 256) = x1 * 256 := by rw [IntKind.wrap_i64]; omega
  have W5 : bits .or .i64 (x1 * 256) x2 = 256 * x1 + x2 := by
    obtain ⟨a, rfl⟩ := oct_nat p1 r1
    obtain ⟨b, rfl⟩ := oct_nat p2 r2
    exact or_oct a b a.2 b.2
  have g := f_s17 x4 p4 r4 w0
  generalize 256 * x1 + x2 = X at *
  generalize x4 / 2 = y4 at *
  obtain ⟨V, hV⟩ : ∃ V, (if x0 ≠ 15 ∨ x3 < 1 ∨ 7 < x3 ∨ x4 % 2 = 0 then (Tm.zero, (4 : Int)) else (⟨x3, X, y4⟩, 0)) = V := ⟨_, rfl⟩
  rw [hV]
  have HV := Lib.hid hV
  clear hV
  go_enter Tryz.func61, Tryz.ntmps61
  go_upto_region 5 with fail
  generalize w.alloc _ = wa at *
  generalize w.heap.size = ga at *
  have hd := h1.drew
  clear c f h1
  refine wp_region_held_drew (S := fun _ => True) (by kernel_rfl) trivial (fun hHeld => ?_)
  generalize wa.drew = wd at *
  refine wpAnyH_take (i := 0) (oi := { dst := some 15, op := Op.move (Operand.tmp 0), type := 9, pos := "teimsg.go:73", after := #[], guard := none }) (v := ?_) rfl (by kernel_rfl) (by kernel_rfl) (by kernel_rfl) (fun _ _ _ h => h) (Or.inl ⟨by rfl, ?_⟩) (by assumption) ?_
  rotate_left 1
  · intro w hSw
    try dsimp only at hSw
    go_simp
    try with_reducible rfl
  try simp only [Act.put, List.setIfInBounds_toArray, List.set_cons_zero, List.set_cons_succ]
  refine wpAnyH_take (i := 1) (oi := { dst := some 16, op := Op.index 9 (Operand.tmp 15) (Operand.const (Value.int IntKind.i64 3)), type := 5, pos := "teimsg.go:73", after := #[{ on := 0, ground := Ground.data }], guard := none }) (v := ?_) rfl (by kernel_rfl) (by kernel_rfl) (by kernel_rfl) (fun _ _ _ h => h) (Or.inl ⟨by rfl, ?_⟩) (by assumption) ?_
  rotate_left 1
  · intro w hSw
    try dsimp only at hSw
    go_simp
    try with_reducible rfl
  try simp only [Act.put, List.setIfInBounds_toArray, List.set_cons_zero, List.set_cons_succ]
  refine wpAnyH_take (i := 2) (oi := { dst := some 17, op := Op.convert 5 79 (Operand.tmp 16), type := 79, pos := "teimsg.go:73", after := #[{ on := 1, ground := Ground.data }], guard := none }) (v := ?_) rfl (by kernel_rfl) (by kernel_rfl) (by kernel_rfl) (fun _ _ _ h => h) (Or.inl ⟨by rfl, ?_⟩) (by assumption) ?_
  rotate_left 1
  · intro w hSw
    try dsimp only at hSw
    go_simp
    try with_reducible rfl
  try simp only [Act.put, List.setIfInBounds_toArray, List.set_cons_zero, List.set_cons_succ]
  refine wpAnyH_take (i := 3) (oi := { dst := some 18, op := Op.move (Operand.tmp 0), type := 9, pos := "teimsg.go:73", after := #[], guard := none }) (v := ?_) rfl (by kernel_rfl) (by kernel_rfl) (by kernel_rfl) (fun _ _ _ h => h) (Or.inl ⟨by rfl, ?_⟩) (by assumption) ?_
  rotate_left 1
  · intro w hSw
    try dsimp only at hSw
    go_simp
    try with_reducible rfl
  try simp only [Act.put, List.setIfInBounds_toArray, List.set_cons_zero, List.set_cons_succ]
  refine wpAnyH_take (i := 4) (oi := { dst := some 19, op := Op.index 9 (Operand.tmp 18) (Operand.const (Value.int IntKind.i64 1)), type := 5, pos := "teimsg.go:73", after := #[{ on := 3, ground := Ground.data }], guard := none }) (v := ?_) rfl (by kernel_rfl) (by kernel_rfl) (by kernel_rfl) (fun _ _ _ h => h) (Or.inl ⟨by rfl, ?_⟩) (by assumption) ?_
  rotate_left 1
  · intro w hSw
    try dsimp only at hSw
    go_simp
    try with_reducible rfl
  try simp only [Act.put, List.setIfInBounds_toArray, List.set_cons_zero, List.set_cons_succ]
  refine wpAnyH_take (i := 5) (oi := { dst := some 20, op := Op.convert 5 3 (Operand.tmp 19), type := 3, pos := "teimsg.go:73", after := #[{ on := 4, ground := Ground.data }], guard := none }) (v := ?_) rfl (by kernel_rfl) (by kernel_rfl) (by kernel_rfl) (fun _ _ _ h => h) (Or.inl ⟨by rfl, ?_⟩) (by assumption) ?_
  rotate_left 1
  · intro w hSw
    try dsimp only at hSw
    go_simp
    try with_reducible rfl
  try simp only [Act.put, List.setIfInBounds_toArray, List.set_cons_zero, List.set_cons_succ]
  refine wpAnyH_take (i := 6) (oi := { dst := some 21, op := Op.binOp BinOp.shl 3 (Operand.tmp 20) (Operand.const (Value.int IntKind.u64 8)) 262, type := 3, pos := "teimsg.go:73", after := #[{ on := 5, ground := Ground.data }], guard := none }) (v := ?_) rfl (by kernel_rfl) (by kernel_rfl) (by kernel_rfl) (fun _ _ _ h => h) (Or.inl ⟨by rfl, ?_⟩) (by assumption) ?_
  rotate_left 1
  · intro w hSw
    try dsimp only at hSw
    go_simp
    try with_reducible rfl
  try simp only [Act.put, List.setIfInBounds_toArray, List.set_cons_zero, List.set_cons_succ]
  refine wpAnyH_take (i := 7) (oi := { dst := some 22, op := Op.move (Operand.tmp 0), type := 9, pos := "teimsg.go:73", after := #[], guard := none }) (v := ?_) rfl (by kernel_rfl) (by kernel_rfl) (by kernel_rfl) (fun _ _ _ h => h) (Or.inl ⟨by rfl, ?_⟩) (by assumption) ?_
  rotate_left 1
  · intro w hSw
    try dsimp only at hSw
    go_simp
    try with_reducible rfl
  try simp only [Act.put, List.setIfInBounds_toArray, List.set_cons_zero, List.set_cons_succ]
  refine wpAnyH_take (i := 8) (oi := { dst := some 23, op := Op.index 9 (Operand.tmp 22) (Operand.const (Value.int IntKind.i64 2)), type := 5, pos := "teimsg.go:73", after := #[{ on := 7, ground := Ground.data }], guard := none }) (v := ?_) rfl (by kernel_rfl) (by kernel_rfl) (by kernel_rfl) (fun _ _ _ h => h) (Or.inl ⟨by rfl, ?_⟩) (by assumption) ?_
  rotate_left 1
  · intro w hSw
    try dsimp only at hSw
    go_simp
    try with_reducible rfl
  try simp only [Act.put, List.setIfInBounds_toArray, List.set_cons_zero, List.set_cons_succ]
  refine wpAnyH_take (i := 9) (oi := { dst := some 24, op := Op.convert 5 3 (Operand.tmp 23), type := 3, pos := "teimsg.go:73", after := #[{ on := 8, ground := Ground.data }], guard := none }) (v := ?_) rfl (by kernel_rfl) (by kernel_rfl) (by kernel_rfl) (fun _ _ _ h => h) (Or.inl ⟨by rfl, ?_⟩) (by assumption) ?_
  rotate_left 1
  · intro w hSw
    try dsimp only at hSw
    go_simp
    try with_reducible rfl
  try simp only [Act.put, List.setIfInBounds_toArray, List.set_cons_zero, List.set_cons_succ]
  refine wpAnyH_take (i := 10) (oi := { dst := some 25, op := Op.binOp BinOp.or 3 (Operand.tmp 21) (Operand.tmp 24) 3, type := 3, pos := "teimsg.go:73", after := #[{ on := 6, ground := Ground.data }, { on := 9, ground := Ground.data }], guard := none }) (v := ?_) rfl (by kernel_rfl) (by kernel_rfl) (by kernel_rfl) (fun _ _ _ h => h) (Or.inl ⟨by rfl, ?_⟩) (by assumption) ?_
  rotate_left 1
  · intro w hSw
    try dsimp only at hSw
    go_simp
    try with_reducible rfl
  try simp only [Act.put, List.setIfInBounds_toArray, List.set_cons_zero, List.set_cons_succ]
  refine wpAnyH_take (i := 11) (oi := { dst := some 26, op := Op.move (Operand.tmp 0), type := 9, pos := "teimsg.go:73", after := #[], guard := none }) (v := ?_) rfl (by kernel_rfl) (by kernel_rfl) (by kernel_rfl) (fun _ _ _ h => h) (Or.inl ⟨by rfl, ?_⟩) (by assumption) ?_
  rotate_left 1
  · intro w hSw
    try dsimp only at hSw
    go_simp
    try with_reducible rfl
  try simp only [Act.put, List.setIfInBounds_toArray, List.set_cons_zero, List.set_cons_succ]
  refine wpAnyH_take (i := 12) (oi := { dst := some 27, op := Op.index 9 (Operand.tmp 26) (Operand.const (Value.int IntKind.i64 4)), type := 5, pos := "teimsg.go:73", after := #[{ on := 11, ground := Ground.data }], guard := none }) (v := ?_) rfl (by kernel_rfl) (by kernel_rfl) (by kernel_rfl) (fun _ _ _ h => h) (Or.inl ⟨by rfl, ?_⟩) (by assumption) ?_
  rotate_left 1
  · intro w hSw
    try dsimp only at hSw
    go_simp
    try with_reducible rfl
  try simp only [Act.put, List.setIfInBounds_toArray, List.set_cons_zero, List.set_cons_succ]
  refine wpAnyH_ready (rs := [13, 15]) (by kernel_rfl) (by simp) ?_
  refine AllReadyH.cons (o := { dst := some 28, op := Op.call { callee := Callee.value (Operand.func 120), args := #[Operand.tmp 27, Operand.const (Value.int IntKind.i64 1), Operand.const (Value.int IntKind.i64 7)], argTypes := #[5, 3, 3] }, type := 3, pos := "teimsg.go:73", after := #[{ on := 12, ground := Ground.data }], guard := none }) rfl (fun K hK => ?_) (AllReadyH.cons (o := { dst := some 4, op := Op.alloc 81, type := 0, pos := "teimsg.go:73", after := #[], guard := none }) rfl (fun K hK => ?_) AllReadyH.nil)
  · go_simp
    go_at_call 120
    refine (g _ _ hd).mono ?_
    rintro e w5 ⟨rfl, h5⟩
    go_simp
    refine hK.out _ _ trivial (fun hHeld => ?_)
    clear hK K
    try simp only [Act.put, List.setIfInBounds_toArray, List.set_cons_zero, List.set_cons_succ]
    rename_i hheld
    refine wpAnyH_take (i := 14) (oi := { dst := some 29, op := Op.build 81 #[(0, Operand.tmp 17), (1, Operand.tmp 25), (2, Operand.tmp 28)], type := 81, pos := "teimsg.go:73", after := #[{ on := 2, ground := Ground.data }, { on := 10, ground := Ground.data }, { on := 13, ground := Ground.data }], guard := none }) (v := ?_) rfl (by kernel_rfl) (by kernel_rfl) (by kernel_rfl) (fun _ _ _ h => h) (Or.inl ⟨by rfl, ?_⟩) (by assumption) ?_
    rotate_left 1
    · intro w hSw
      try dsimp only at hSw
      go_simp
      try with_reducible rfl
    try simp only [Act.put, List.setIfInBounds_toArray, List.set_cons_zero, List.set_cons_succ]
    clear hd
    have lt := h5.lt
    have h6 := h5.alloc (.cells #[.int .i64 0, .int .i64 0, .int .i64 0] TTm)
    have c6 := h6.cell
    have f6 := h6.free
    refine wpAnyH_ready (rs := [15]) (by kernel_rfl) (by simp) ?_
    refine AllReadyH.cons (o := { dst := some 4, op := Op.alloc 81, type := 0, pos := "teimsg.go:73", after := #[], guard := none }) rfl (fun K hK => ?_) ?_
    rotate_left 1
    · exact AllReadyH.nil
    go_simp
    go_simp
    refine hK.out _ _ trivial (fun hHeld => ?_)
    clear hK K
    try simp only [Act.put, List.setIfInBounds_toArray, List.set_cons_zero, List.set_cons_succ]
    refine wpAnyH_ready (rs := [16]) (by kernel_rfl) (by simp) ?_
    refine AllReadyH.cons (o := { dst := none, op := Op.store 81 (Operand.tmp 4) (Operand.tmp 29), type := 0, pos := "teimsg.go:73", after := #[{ on := 15, ground := Ground.data }, { on := 14, ground := Ground.data }, { on := 13, ground := Ground.chain }, { on := 0, ground := Ground.phase }, { on := 1, ground := Ground.phase }, { on := 2, ground := Ground.phase }, { on := 3, ground := Ground.phase }, { on := 4, ground := Ground.phase }, { on := 5, ground := Ground.phase }, { on := 6, ground := Ground.phase }, { on := 7, ground := Ground.phase }, { on := 8, ground := Ground.phase }, { on := 9, ground := Ground.phase }, { on := 10, ground := Ground.phase }, { on := 11, ground := Ground.phase }, { on := 12, ground := Ground.phase }, { on := 13, ground := Ground.phase }, { on := 14, ground := Ground.phase }, { on := 15, ground := Ground.phase }], guard := none }) rfl (fun K hK => ?_) ?_
    rotate_left 1
    · exact AllReadyH.nil
    go_simp
    go_simp
    refine hK.out _ _ trivial (fun hHeld => ?_)
    clear hK K
    try simp only [Act.put, List.setIfInBounds_toArray, List.set_cons_zero, List.set_cons_succ]
    refine wpAnyH_done (by kernel_rfl) ?_ _
    have h7 := h5.alloc (.cells #[.int .i64 x3, .int .i64 X, .int .i64 y4] TTm)
    clear c6 f6 h6 h5 g
    generalize w5.alloc _ = w7 at *
    generalize hgb : w5.heap.size = gb at *
    have ne1 : ga ≠ gb := by omega
    have ne2 : gb ≠ ga := by omega
    have hV := HV.out
    clear HV
    have c7 := h7.cell
    have c8 := h7.f2.cell
    have f8 := h7.f2.free
    by_cases e0 : x0 = 15
    · have q0 : (x0 != 15) = false := by simp [e0]
      by_cases e1 : x3 < 1
      · have q1 : decide (x3 < 1) = true := decide_eq_true e1
        have HC : (x0 ≠ 15 ∨ x3 < 1 ∨ 7 < x3 ∨ x4 % 2 = 0) := .inr (.inl e1)
        clear e0 e1
        have hV2 := (if_pos HC).symm.trans hV
        have h9 := (((h7.f2.set 0 (.int .i64 0)).set 1 (.int .i64 0)).set 2 (.int .i64 0))
        go_wp2
        have cr := h9.cell
        refine bodyPost_ret (v := .tuple #[.agg #[.int .i64 0, .int .i64 0, .int .i64 0], .int .i64 4]) (by simp [results, Tryz.results61, go_sem, cr]) rfl ⟨by rw [← hV2], h9.drop.drop⟩
      · have q1 : decide (x3 < 1) = false := decide_eq_false e1
        by_cases e2 : 7 < x3
        · have q2 : decide (7 < x3) = true := decide_eq_true e2
          have HC : (x0 ≠ 15 ∨ x3 < 1 ∨ 7 < x3 ∨ x4 % 2 = 0) := .inr (.inr (.inl e2))
          clear e0 e1 e2
          have hV2 := (if_pos HC).symm.trans hV
          have h9 := (((h7.f2.set 0 (.int .i64 0)).set 1 (.int .i64 0)).set 2 (.int .i64 0))
          go_wp2
          have cr := h9.cell
          refine bodyPost_ret (v := .tuple #[.agg #[.int .i64 0, .int .i64 0, .int .i64 0], .int .i64 4]) (by simp [results, Tryz.results61, go_sem, cr]) rfl ⟨by rw [← hV2], h9.drop.drop⟩
        · have q2 : decide (7 < x3) = false := decide_eq_false e2
          by_cases e3 : x4 % 2 = 0
          · have q3 : (x4 % 2 == 0) = true := by simp [e3]
            have HC : (x0 ≠ 15 ∨ x3 < 1 ∨ 7 < x3 ∨ x4 % 2 = 0) := .inr (.inr (.inr e3))
            clear e0 e1 e2 e3
            have hV2 := (if_pos HC).symm.trans hV
            have h9 := (((h7.f2.set 0 (.int .i64 0)).set 1 (.int .i64 0)).set 2 (.int .i64 0))
            go_wp2
            have cr := h9.cell
            refine bodyPost_ret (v := .tuple #[.agg #[.int .i64 0, .int .i64 0, .int .i64 0], .int .i64 4]) (by simp [results, Tryz.results61, go_sem, cr]) rfl ⟨by rw [← hV2], h9.drop.drop⟩
          · have q3 : (x4 % 2 == 0) = false := by simp [e3]
            have hV2 := (if_neg (show ¬ (x0 ≠ 15 ∨ x3 < 1 ∨ 7 < x3 ∨ x4 % 2 = 0) by omega)).symm.trans hV
            clear e0 e1 e2 e3
            have h9 := (((h7.f2.set 0 (.int .i64 x3)).set 1 (.int .i64 X)).set 2 (.int .i64 y4))
            go_wp2
            have cr := h9.cell
            refine bodyPost_ret (v := .tuple #[.agg #[.int .i64 x3, .int .i64 X, .int .i64 y4], .int .i64 0]) (by simp [results, Tryz.results61, go_sem, cr]) rfl ⟨by rw [← hV2], h9.drop.drop⟩
    · have q0 : (x0 != 15) = true := by simp [e0]
      have HC : (x0 ≠ 15 ∨ x3 < 1 ∨ 7 < x3 ∨ x4 % 2 = 0) := .inl e0
      clear e0
      have hV2 := (if_pos HC).symm.trans hV
      have h9 := (((h7.f2.set 0 (.int .i64 0)).set 1 (.int .i64 0)).set 2 (.int .i64 0))
      go_wp2
      have cr := h9.cell
      refine bodyPost_ret (v := .tuple #[.agg #[.int .i64 0, .int .i64 0, .int .i64 0], .int .i64 4]) (by simp [results, Tryz.results61, go_sem, cr]) rfl ⟨by rw [← hV2], h9.drop.drop⟩
  · go_simp
    have lt := hd.lt
    have h6 := hd.alloc (.cells #[.int .i64 0, .int .i64 0, .int .i64 0] TTm)
    go_simp
    refine hK.out _ _ trivial (fun hHeld => ?_)
    clear hK K
    try simp only [Act.put, List.setIfInBounds_toArray, List.set_cons_zero, List.set_cons_succ]
    refine wpAnyH_ready (rs := [13]) (by kernel_rfl) (by simp) ?_
    refine AllReadyH.cons (o := { dst := some 28, op := Op.call { callee := Callee.value (Operand.func 120), args := #[Operand.tmp 27, Operand.const (Value.int IntKind.i64 1), Operand.const (Value.int IntKind.i64 7)], argTypes := #[5, 3, 3] }, type := 3, pos := "teimsg.go:73", after := #[{ on := 12, ground := Ground.data }], guard := none }) rfl (fun K hK => ?_) ?_
    rotate_left 1
    · exact AllReadyH.nil
    go_simp
    go_at_call 120
    refine (g _ _ h6).mono ?_
    rintro e w5 ⟨rfl, h5⟩
    have c6 := h5.cell
    have f6 := h5.free
    go_simp
    refine hK.out _ _ trivial (fun hHeld => ?_)
    clear hK K
    try simp only [Act.put, List.setIfInBounds_toArray, List.set_cons_zero, List.set_cons_succ]
    refine wpAnyH_take (i := 14) (oi := { dst := some 29, op := Op.build 81 #[(0, Operand.tmp 17), (1, Operand.tmp 25), (2, Operand.tmp 28)], type := 81, pos := "teimsg.go:73", after := #[{ on := 2, ground := Ground.data }, { on := 10, ground := Ground.data }, { on := 13, ground := Ground.data }], guard := none }) (v := ?_) rfl (by kernel_rfl) (by kernel_rfl) (by kernel_rfl) (fun _ _ _ h => h) (Or.inl ⟨by rfl, ?_⟩) (by assumption) ?_
    rotate_left 1
    · intro w hSw
      try dsimp only at hSw
      go_simp
      try with_reducible rfl
    try simp only [Act.put, List.setIfInBounds_toArray, List.set_cons_zero, List.set_cons_succ]
    refine wpAnyH_ready (rs := [16]) (by kernel_rfl) (by simp) ?_
    refine AllReadyH.cons (o := { dst := none, op := Op.store 81 (Operand.tmp 4) (Operand.tmp 29), type := 0, pos := "teimsg.go:73", after := #[{ on := 15, ground := Ground.data }, { on := 14, ground := Ground.data }, { on := 13, ground := Ground.chain }, { on := 0, ground := Ground.phase }, { on := 1, ground := Ground.phase }, { on := 2, ground := Ground.phase }, { on := 3, ground := Ground.phase }, { on := 4, ground := Ground.phase }, { on := 5, ground := Ground.phase }, { on := 6, ground := Ground.phase }, { on := 7, ground := Ground.phase }, { on := 8, ground := Ground.phase }, { on := 9, ground := Ground.phase }, { on := 10, ground := Ground.phase }, { on := 11, ground := Ground.phase }, { on := 12, ground := Ground.phase }, { on := 13, ground := Ground.phase }, { on := 14, ground := Ground.phase }, { on := 15, ground := Ground.phase }], guard := none }) rfl (fun K hK => ?_) ?_
    rotate_left 1
    · exact AllReadyH.nil
    go_simp
    go_simp
    refine hK.out _ _ trivial (fun hHeld => ?_)
    clear hK K
    try simp only [Act.put, List.setIfInBounds_toArray, List.set_cons_zero, List.set_cons_succ]
    refine wpAnyH_done (by kernel_rfl) ?_ _
    have h7 := (((h5.set 0 (.int .i64 x3)).set 1 (.int .i64 X)).set 2 (.int .i64 y4))
    generalize ((w5.setCell _ _).setCell _ _).setCell _ _ = w7 at *
    clear c6 f6 h6 h5 g hd
    generalize hgb : wd.heap.size = gb at *
    have ne1 : ga ≠ gb := by omega
    have ne2 : gb ≠ ga := by omega
    have hV := HV.out
    clear HV
    have c7 := h7.cell
    have c8 := h7.f2.cell
    have f8 := h7.f2.free
    by_cases e0 : x0 = 15
    · have q0 : (x0 != 15) = false := by simp [e0]
      by_cases e1 : x3 < 1
      · have q1 : decide (x3 < 1) = true := decide_eq_true e1
        have HC : (x0 ≠ 15 ∨ x3 < 1 ∨ 7 < x3 ∨ x4 % 2 = 0) := .inr (.inl e1)
        clear e0 e1
        have hV2 := (if_pos HC).symm.trans hV
        have h9 := (((h7.f2.set 0 (.int .i64 0)).set 1 (.int .i64 0)).set 2 (.int .i64 0))
        go_wp2
        have cr := h9.cell
        refine bodyPost_ret (v := .tuple #[.agg #[.int .i64 0, .int .i64 0, .int .i64 0], .int .i64 4]) (by simp [results, Tryz.results61, go_sem, cr]) rfl ⟨by rw [← hV2], h9.drop.drop⟩
      · have q1 : decide (x3 < 1) = false := decide_eq_false e1
        by_cases e2 : 7 < x3
        · have q2 : decide (7 < x3) = true := decide_eq_true e2
          have HC : (x0 ≠ 15 ∨ x3 < 1 ∨ 7 < x3 ∨ x4 % 2 = 0) := .inr (.inr (.inl e2))
          clear e0 e1 e2
          have hV2 := (if_pos HC).symm.trans hV
          have h9 := (((h7.f2.set 0 (.int .i64 0)).set 1 (.int .i64 0)).set 2 (.int .i64 0))
          go_wp2
          have cr := h9.cell
          refine bodyPost_ret (v := .tuple #[.agg #[.int .i64 0, .int .i64 0, .int .i64 0], .int .i64 4]) (by simp [results, Tryz.results61, go_sem, cr]) rfl ⟨by rw [← hV2], h9.drop.drop⟩
        · have q2 : decide (7 < x3) = false := decide_eq_false e2
          by_cases e3 : x4 % 2 = 0
          · have q3 : (x4 % 2 == 0) = true := by simp [e3]
            have HC : (x0 ≠ 15 ∨ x3 < 1 ∨ 7 < x3 ∨ x4 % 2 = 0) := .inr (.inr (.inr e3))
            clear e0 e1 e2 e3
            have hV2 := (if_pos HC).symm.trans hV
            have h9 := (((h7.f2.set 0 (.int .i64 0)).set 1 (.int .i64 0)).set 2 (.int .i64 0))
            go_wp2
            have cr := h9.cell
            refine bodyPost_ret (v := .tuple #[.agg #[.int .i64 0, .int .i64 0, .int .i64 0], .int .i64 4]) (by simp [results, Tryz.results61, go_sem, cr]) rfl ⟨by rw [← hV2], h9.drop.drop⟩
          · have q3 : (x4 % 2 == 0) = false := by simp [e3]
            have hV2 := (if_neg (show ¬ (x0 ≠ 15 ∨ x3 < 1 ∨ 7 < x3 ∨ x4 % 2 = 0) by omega)).symm.trans hV
            clear e0 e1 e2 e3
            have h9 := (((h7.f2.set 0 (.int .i64 x3)).set 1 (.int .i64 X)).set 2 (.int .i64 y4))
            go_wp2
            have cr := h9.cell
            refine bodyPost_ret (v := .tuple #[.agg #[.int .i64 x3, .int .i64 X, .int .i64 y4], .int .i64 0]) (by simp [results, Tryz.results61, go_sem, cr]) rfl ⟨by rw [← hV2], h9.drop.drop⟩
    · have q0 : (x0 != 15) = true := by simp [e0]
      have HC : (x0 ≠ 15 ∨ x3 < 1 ∨ 7 < x3 ∨ x4 % 2 = 0) := .inl e0
      clear e0
      have hV2 := (if_pos HC).symm.trans hV
      have h9 := (((h7.f2.set 0 (.int .i64 0)).set 1 (.int .i64 0)).set 2 (.int .i64 0))
      go_wp2
      have cr := h9.cell
      refine bodyPost_ret (v := .tuple #[.agg #[.int .i64 0, .int .i64 0, .int .i64 0], .int .i64 4]) (by simp [results, Tryz.results61, go_sem, cr]) rfl ⟨by rw [← hV2], h9.drop.drop⟩
end Go.Proofs.YtnnahljdhdippaaGreatDoor
