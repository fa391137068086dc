/- MuxOne: the walk. -/
import Derived.Test.YtkcclijckpbobaaMuxOneP
namespace Go.Proofs.Ytkcclijckpbobaa
open Go.RowKit Go.Sort

set_option maxRecDepth 100000 in
set_option maxHeartbeats 3200000 in
theorem MuxOne.walk (a0 : Int) (a1 : Option Addr) (len1 cap1 : Nat) (a2 : Array Value) (w : World) (w0 : (Lit.int .i64 a0).wf = true) (w1 : (Sh.slice MASh).ok w [.slice a1 len1 cap1]) (w2 : Sh.ok w MASh a2.toList) :
    Calls Try.prog 4 #[.int .i64 a0, .slice a1 len1 cap1, .agg a2] w fun e w' => e = .returned (.bool true) ∧ Below w.heap.size w w' := by
  obtain ⟨y, hy, yok⟩ := ma_one w2
  obtain rfl : a2 = y.cells := by cases a2; simp only at hy; rw [hy]
  obtain ⟨yd, ys, yt, yi⟩ := y
  have hyi : (Lit.int .i64 yi).wf = true := yok.2.2.1
  have h0 := (St.start w).alloc (.cells #[.int .i64 yd, .int .i64 ys, .int .i64 yt, .int .i64 yi] 29)
  have hrun := mx_run a0 a1 len1 cap1 w _ _ w1 (fun A wr h => h.drop.drop.old0) h0
  have hmm := @run_makeMap Try.prog
  clear w0 w1 w2 hy h0
  go_enter Try.func4, Try.ntmps4
  go_wp2_with fail
  refine hrun.mono ?_
  rintro e w3 ⟨m, r, x, L, rfl, ok, hR, hmo, hwf, h3⟩
  have h4 := h3.f3.f3.drop
  generalize w.heap.size = ga at *
  have c4 := h4.cell
  have HOK := Lib.hid ok
  have HWF := Lib.hid hwf
  clear hrun h3 hR hmo ok hwf
  go_upto_region 2 with fail
  go_cut [10] (fun s10 wx => ∃ (gl : Nat) (s t : Int), s10 = ptrX gl ∧ 0 ≤ s ∧ s ≤ 63 ∧ 0 ≤ t ∧ t ≤ 126 ∧ St w wx (blk gl (.cells #[.int .i64 s, .int .i64 t] 38 (0, 0)) * (blk ga (.cells #[.int .i64 yd, .int .i64 ys, .int .i64 yt, .int .i64 yi] 29 (0, 0)) * (XAt m x * Old w))))
  case first =>
    have h5 := h4.alloc (.cells #[.int .i64 (bits .and .i64 ys 63), .int .i64 (max 0 yt % 127)] 38)
    have hb := i64_and63 ys
    have HB := Lib.hid hb
    have H5 := Lib.hid h5
    clear hb h5
    go_wp2
    go_meet
    exact ⟨_, _, _, rfl, by rw [HB.out]; omega, by rw [HB.out]; omega, by omega, by omega, H5.out⟩
  case rest =>
    obtain ⟨gl, s, t, rfl, hs0, hs1, ht0, ht1, h5⟩ := hcut
    have hk : okL (s, t) := ⟨WalkArith.wf_i64 (by omega), WalkArith.wf_i64 (by omega)⟩
    have hsx := Ok.short HOK.out
    obtain ⟨x', er, l, l', hr1, hj, hr2, ok', hwf', hl1, hcase⟩ := one_cases HOK.out (s := s) (t := t) ⟨hs0, hs1, ht0, ht1⟩ hyi HWF.out
    have hsx' := Ok.short ok'
    have HR1 := Lib.hid hr1
    have HJ := Lib.hid hj
    have HR2 := Lib.hid hr2
    have HOK' := Lib.hid ok'
    have HWF' := Lib.hid hwf'
    have HC := Lib.hid hcase
    have HL1 := Lib.hid hl1
    have c5 := h5.cell
    have f5 := h5.f2.cell
    clear c4 h4 hr1 hj hr2 ok' hwf' hcase hl1 HOK HWF hyi
    go_wp2_with fail
    refine (x_route m x (s, t) hk _ _ _ h5.f3 (by omega)).mono ?_
    rintro e w6 ⟨v1, rfl, h6⟩
    rw [HR1.out] at h6
    have c6 := h6.f3.cell
    have f6 := h6.f4.cell
    clear c5 f5 h5
    go_wp2_with fail
    refine (x_join_to h6.f2 hk (by omega) HJ.out).mono ?_
    rintro e w7 ⟨rfl, h7⟩
    have c7 := h7.f3.cell
    have f7 := h7.f4.cell
    clear c6 f6 h6
    go_wp2_with fail
    refine (x_route m x' (s, t) hk _ _ _ h7 (by omega)).mono ?_
    rintro e w8 ⟨v2, rfl, h8⟩
    rw [HR2.out] at h8
    clear c7 f7 h7
    obtain ⟨q1, p1, rfl, _, _⟩ := h8.l_shape
    obtain ⟨q2, p2, rfl, _, _⟩ := h8.f3.l_shape
    obtain ⟨n1, hn1⟩ : ∃ n, l.length = n := ⟨_, rfl⟩
    obtain ⟨n2, hn2⟩ : ∃ n, l'.length = n := ⟨_, rfl⟩
    rw [hn1, hn2] at h8
    rw [hn1, hn2]
    have HN1 := Lib.hid hn1
    have HN2 := Lib.hid hn2
    clear hn1 hn2
    go_upto_region 6 with fail
    go_cut [88] (fun s88 wx => s88 = .bool false ∧ St w wx (XAt m x' * (blk gl (.cells #[.int .i64 s, .int .i64 t] 38 (0, 0)) * (blk ga (.cells #[.int .i64 yd, .int .i64 ys, .int .i64 yt, .int .i64 yi] 29 (0, 0)) * Old w))))
    case first =>
      have hl1 := HL1.out
      have hn1 := HN1.out
      have hn2 := HN2.out
      rcases HC.out with ⟨he, hll, hq⟩ | ⟨he, hl0, hl1'⟩
      · subst hll
        rw [hn1] at hl1 hq
        obtain ⟨bq, hbq⟩ : ∃ b, (er == 13) = b := ⟨_, rfl⟩
        have p2 : (er == 13) = bq := hbq
        have p3 : ((n1 : Int) == 1) = bq := by rw [← hq]; exact hbq
        have p1 : decide (1 < (n1 : Int)) = false := by simp; omega
        have p4 : (er == 0) = false := by simpa using he
        have p5 : (er != 0) = true := by simpa using he
        have hnl : l'.length ≤ 1000000 := by omega
        have h8 := h8.f3
        clear hl1 hq hbq he hn1 hn2
        refine wp_region_held_drew (S := fun _ => True) (by kernel_rfl) trivial (fun hHeld => ?_)
        refine wpAnyH_ready (rs := [0]) (by kernel_rfl) (by simp) ?_
        refine AllReadyH.cons (o := { dst := some 47, op := Op.call { callee := Callee.value (Operand.func 8), args := #[], argTypes := #[] }, type := 4, pos := "law.go:85", after := #[], guard := none }) rfl (fun K hK => ?_) ?_
        rotate_left 1
        · exact AllReadyH.nil
        go_simp
        go_at_call 8
        refine (mx_wakes _ _ _ h8.drew).mono ?_
        rintro e w9 ⟨rfl, h9⟩
        go_simp
        refine hK.out _ _ trivial (fun hHeld => ?_)
        clear hK K
        try simp only [Act.put, List.setIfInBounds_toArray, List.set_cons_zero, List.set_cons_succ]
        refine wpAnyH_take (i := 1) (oi := { dst := some 48, op := Op.unOp UnOp.not 4 (Operand.tmp 47), type := 4, pos := "law.go:85", after := #[{ on := 0, ground := Ground.data }], guard := none }) (v := ?_) rfl (by kernel_rfl) (by kernel_rfl) (by kernel_rfl) (fun _ _ _ h => h) (Or.inl ⟨by rfl, ?_⟩) (by assumption) ?_
        rotate_left 1
        · intro w hSw
          try dsimp only at hSw
          go_simp
          try with_reducible rfl
        try simp only [Act.put, List.setIfInBounds_toArray, List.set_cons_zero, List.set_cons_succ]
        refine wpAnyH_take (i := 2) (oi := { dst := some 49, op := Op.move (Operand.tmp 48), type := 4, pos := "law.go:85", after := #[{ on := 1, ground := Ground.data }, { on := 0, ground := Ground.chain }], guard := none }) (v := ?_) rfl (by kernel_rfl) (by kernel_rfl) (by kernel_rfl) (fun _ _ _ h => h) (Or.inl ⟨by rfl, ?_⟩) (by assumption) ?_
        rotate_left 1
        · intro w hSw
          try dsimp only at hSw
          go_simp
          try with_reducible rfl
        try simp only [Act.put, List.setIfInBounds_toArray, List.set_cons_zero, List.set_cons_succ]
        refine wpAnyH_take (i := 3) (oi := { dst := some 50, op := Op.move (Operand.tmp 11), type := 35, pos := "law.go:85", after := #[{ on := 2, ground := Ground.guard }], guard := some (2, false) }) (v := ?_) rfl (by kernel_rfl) (by kernel_rfl) (by kernel_rfl) (fun _ _ _ h => h) (Or.inl ⟨by rfl, ?_⟩) (by assumption) ?_
        rotate_left 1
        · intro w hSw
          try dsimp only at hSw
          go_simp
          try with_reducible rfl
        try simp only [Act.put, List.setIfInBounds_toArray, List.set_cons_zero, List.set_cons_succ]
        refine wpAnyH_take (i := 4) (oi := { dst := some 51, op := Op.call { callee := Callee.builtin Builtin.len, args := #[Operand.tmp 50], argTypes := #[35] }, type := 3, pos := "law.go:85", after := #[{ on := 3, ground := Ground.data }, { on := 2, ground := Ground.guard }], guard := some (2, false) }) (v := ?_) rfl (by kernel_rfl) (by kernel_rfl) (by kernel_rfl) (fun _ _ _ h => h) (Or.inl ⟨by rfl, ?_⟩) (by assumption) ?_
        rotate_left 1
        · intro w hSw
          try dsimp only at hSw
          go_simp
          try with_reducible rfl
        try simp only [Act.put, List.setIfInBounds_toArray, List.set_cons_zero, List.set_cons_succ]
        refine wpAnyH_take (i := 5) (oi := { dst := some 52, op := Op.binOp BinOp.gtr 3 (Operand.tmp 51) (Operand.const (Value.int IntKind.i64 1)) 3, type := 4, pos := "law.go:85", after := #[{ on := 4, ground := Ground.data }, { on := 2, ground := Ground.guard }], guard := some (2, false) }) (v := ?_) rfl (by kernel_rfl) (by kernel_rfl) (by kernel_rfl) (fun _ _ _ h => h) (Or.inl ⟨by rfl, ?_⟩) (by assumption) ?_
        rotate_left 1
        · intro w hSw
          try dsimp only at hSw
          go_simp
          try with_reducible rfl
        try simp only [Act.put, List.setIfInBounds_toArray, List.set_cons_zero, List.set_cons_succ]
        refine wpAnyH_take (i := 6) (oi := { dst := some 53, op := Op.pick (Operand.tmp 49) (Operand.const (Value.bool true)) (Operand.tmp 52), type := 4, pos := "law.go:85", after := #[{ on := 2, ground := Ground.data }, { on := 5, ground := Ground.data }], guard := none }) (v := ?_) rfl (by kernel_rfl) (by kernel_rfl) (by kernel_rfl) (fun _ _ _ h => h) (Or.inl ⟨by rfl, ?_⟩) (by assumption) ?_
        rotate_left 1
        · intro w hSw
          try dsimp only at hSw
          go_simp
          try with_reducible rfl
        try simp only [Act.put, List.setIfInBounds_toArray, List.set_cons_zero, List.set_cons_succ]
        refine wpAnyH_take (i := 7) (oi := { dst := some 54, op := Op.move (Operand.tmp 53), type := 4, pos := "law.go:85", after := #[{ on := 6, ground := Ground.data }, { on := 2, ground := Ground.chain }], guard := none }) (v := ?_) rfl (by kernel_rfl) (by kernel_rfl) (by kernel_rfl) (fun _ _ _ h => h) (Or.inl ⟨by rfl, ?_⟩) (by assumption) ?_
        rotate_left 1
        · intro w hSw
          try dsimp only at hSw
          go_simp
          try with_reducible rfl
        try simp only [Act.put, List.setIfInBounds_toArray, List.set_cons_zero, List.set_cons_succ]
        refine wpAnyH_take (i := 8) (oi := { dst := some 55, op := Op.move (Operand.tmp 12), type := 43, pos := "law.go:85", after := #[{ on := 7, ground := Ground.guard }], guard := some (7, false) }) (v := ?_) rfl (by kernel_rfl) (by kernel_rfl) (by kernel_rfl) (fun _ _ _ h => h) (Or.inl ⟨by rfl, ?_⟩) (by assumption) ?_
        rotate_left 1
        · intro w hSw
          try dsimp only at hSw
          go_simp
          try with_reducible rfl
        try simp only [Act.put, List.setIfInBounds_toArray, List.set_cons_zero, List.set_cons_succ]
        refine wpAnyH_take (i := 9) (oi := { dst := some 56, op := Op.binOp BinOp.eql 43 (Operand.tmp 55) (Operand.const (Value.int IntKind.i64 13)) 43, type := 4, pos := "law.go:85", after := #[{ on := 8, ground := Ground.data }, { on := 7, ground := Ground.guard }], guard := some (7, false) }) (v := ?_) rfl (by kernel_rfl) (by kernel_rfl) (by kernel_rfl) (fun _ _ _ h => h) (Or.inl ⟨by rfl, ?_⟩) (by assumption) ?_
        rotate_left 1
        · intro w hSw
          try dsimp only at hSw
          go_simp
          try with_reducible rfl
        try simp only [Act.put, List.setIfInBounds_toArray, List.set_cons_zero, List.set_cons_succ]
        refine wpAnyH_take (i := 10) (oi := { dst := some 57, op := Op.move (Operand.tmp 11), type := 35, pos := "law.go:85", after := #[{ on := 7, ground := Ground.guard }], guard := some (7, false) }) (v := ?_) rfl (by kernel_rfl) (by kernel_rfl) (by kernel_rfl) (fun _ _ _ h => h) (Or.inl ⟨by rfl, ?_⟩) (by assumption) ?_
        rotate_left 1
        · intro w hSw
          try dsimp only at hSw
          go_simp
          try with_reducible rfl
        try simp only [Act.put, List.setIfInBounds_toArray, List.set_cons_zero, List.set_cons_succ]
        refine wpAnyH_take (i := 11) (oi := { dst := some 58, op := Op.call { callee := Callee.builtin Builtin.len, args := #[Operand.tmp 57], argTypes := #[35] }, type := 3, pos := "law.go:85", after := #[{ on := 10, ground := Ground.data }, { on := 7, ground := Ground.guard }], guard := some (7, false) }) (v := ?_) rfl (by kernel_rfl) (by kernel_rfl) (by kernel_rfl) (fun _ _ _ h => h) (Or.inl ⟨by rfl, ?_⟩) (by assumption) ?_
        rotate_left 1
        · intro w hSw
          try dsimp only at hSw
          go_simp
          try with_reducible rfl
        try simp only [Act.put, List.setIfInBounds_toArray, List.set_cons_zero, List.set_cons_succ]
        refine wpAnyH_take (i := 12) (oi := { dst := some 59, op := Op.binOp BinOp.eql 3 (Operand.tmp 58) (Operand.const (Value.int IntKind.i64 1)) 3, type := 4, pos := "law.go:85", after := #[{ on := 11, ground := Ground.data }, { on := 7, ground := Ground.guard }], guard := some (7, false) }) (v := ?_) rfl (by kernel_rfl) (by kernel_rfl) (by kernel_rfl) (fun _ _ _ h => h) (Or.inl ⟨by rfl, ?_⟩) (by assumption) ?_
        rotate_left 1
        · intro w hSw
          try dsimp only at hSw
          go_simp
          try with_reducible rfl
        try simp only [Act.put, List.setIfInBounds_toArray, List.set_cons_zero, List.set_cons_succ]
        refine wpAnyH_take (i := 13) (oi := { dst := some 60, op := Op.binOp BinOp.neq 4 (Operand.tmp 56) (Operand.tmp 59) 4, type := 4, pos := "law.go:85", after := #[{ on := 9, ground := Ground.data }, { on := 12, ground := Ground.data }, { on := 7, ground := Ground.guard }], guard := some (7, false) }) (v := ?_) rfl (by kernel_rfl) (by kernel_rfl) (by kernel_rfl) (fun _ _ _ h => h) (Or.inl ⟨by rfl, ?_⟩) (by assumption) ?_
        rotate_left 1
        · intro w hSw
          try dsimp only at hSw
          go_simp
          try with_reducible rfl
        try simp only [Act.put, List.setIfInBounds_toArray, List.set_cons_zero, List.set_cons_succ]
        refine wpAnyH_take (i := 14) (oi := { dst := some 61, op := Op.pick (Operand.tmp 54) (Operand.const (Value.bool true)) (Operand.tmp 60), type := 4, pos := "law.go:85", after := #[{ on := 7, ground := Ground.data }, { on := 13, ground := Ground.data }], guard := none }) (v := ?_) rfl (by kernel_rfl) (by kernel_rfl) (by kernel_rfl) (fun _ _ _ h => h) (Or.inl ⟨by rfl, ?_⟩) (by assumption) ?_
        rotate_left 1
        · intro w hSw
          try dsimp only at hSw
          go_simp
          try with_reducible rfl
        try simp only [Act.put, List.setIfInBounds_toArray, List.set_cons_zero, List.set_cons_succ]
        refine wpAnyH_take (i := 15) (oi := { dst := some 62, op := Op.move (Operand.tmp 61), type := 4, pos := "law.go:85", after := #[{ on := 14, ground := Ground.data }, { on := 7, ground := Ground.chain }], guard := none }) (v := ?_) rfl (by kernel_rfl) (by kernel_rfl) (by kernel_rfl) (fun _ _ _ h => h) (Or.inl ⟨by rfl, ?_⟩) (by assumption) ?_
        rotate_left 1
        · intro w hSw
          try dsimp only at hSw
          go_simp
          try with_reducible rfl
        try simp only [Act.put, List.setIfInBounds_toArray, List.set_cons_zero, List.set_cons_succ]
        refine wpAnyH_take (i := 16) (oi := { dst := some 63, op := Op.move (Operand.tmp 12), type := 43, pos := "law.go:85", after := #[{ on := 15, ground := Ground.guard }], guard := some (15, false) }) (v := ?_) rfl (by kernel_rfl) (by kernel_rfl) (by kernel_rfl) (fun _ _ _ h => h) (Or.inl ⟨by rfl, ?_⟩) (by assumption) ?_
        rotate_left 1
        · intro w hSw
          try dsimp only at hSw
          go_simp
          try with_reducible rfl
        try simp only [Act.put, List.setIfInBounds_toArray, List.set_cons_zero, List.set_cons_succ]
        refine wpAnyH_take (i := 17) (oi := { dst := some 64, op := Op.binOp BinOp.eql 43 (Operand.tmp 63) (Operand.const (Value.int IntKind.i64 0)) 43, type := 4, pos := "law.go:85", after := #[{ on := 16, ground := Ground.data }, { on := 15, ground := Ground.guard }], guard := some (15, false) }) (v := ?_) rfl (by kernel_rfl) (by kernel_rfl) (by kernel_rfl) (fun _ _ _ h => h) (Or.inl ⟨by rfl, ?_⟩) (by assumption) ?_
        rotate_left 1
        · intro w hSw
          try dsimp only at hSw
          go_simp
          try with_reducible rfl
        try simp only [Act.put, List.setIfInBounds_toArray, List.set_cons_zero, List.set_cons_succ]
        refine wpAnyH_take (i := 18) (oi := { dst := some 65, op := Op.move (Operand.tmp 64), type := 4, pos := "law.go:85", after := #[{ on := 17, ground := Ground.data }, { on := 15, ground := Ground.chain }, { on := 15, ground := Ground.guard }], guard := some (15, false) }) (v := ?_) rfl (by kernel_rfl) (by kernel_rfl) (by kernel_rfl) (fun _ _ _ h => h) (Or.inl ⟨by rfl, ?_⟩) (by assumption) ?_
        rotate_left 1
        · intro w hSw
          try dsimp only at hSw
          go_simp
          try with_reducible rfl
        try simp only [Act.put, List.setIfInBounds_toArray, List.set_cons_zero, List.set_cons_succ]
        refine wpAnyH_take (i := 19) (oi := { dst := some 66, op := Op.move (Operand.tmp 13), type := 35, pos := "law.go:85", after := #[{ on := 18, ground := Ground.guard }], guard := some (18, true) }) (v := undef) rfl (by kernel_rfl) (by kernel_rfl) (by kernel_rfl) (fun _ _ _ h => h) (Or.inr ⟨by rfl, rfl⟩) (by assumption) ?_
        try simp only [Act.put, List.setIfInBounds_toArray, List.set_cons_zero, List.set_cons_succ]
        refine wpAnyH_take (i := 20) (oi := { dst := some 67, op := Op.call { callee := Callee.builtin Builtin.len, args := #[Operand.tmp 66], argTypes := #[35] }, type := 3, pos := "law.go:85", after := #[{ on := 19, ground := Ground.data }, { on := 18, ground := Ground.guard }], guard := some (18, true) }) (v := undef) rfl (by kernel_rfl) (by kernel_rfl) (by kernel_rfl) (fun _ _ _ h => h) (Or.inr ⟨by rfl, rfl⟩) (by assumption) ?_
        try simp only [Act.put, List.setIfInBounds_toArray, List.set_cons_zero, List.set_cons_succ]
        refine wpAnyH_take (i := 21) (oi := { dst := some 68, op := Op.binOp BinOp.neq 3 (Operand.tmp 67) (Operand.const (Value.int IntKind.i64 1)) 3, type := 4, pos := "law.go:85", after := #[{ on := 20, ground := Ground.data }, { on := 18, ground := Ground.guard }], guard := some (18, true) }) (v := undef) rfl (by kernel_rfl) (by kernel_rfl) (by kernel_rfl) (fun _ _ _ h => h) (Or.inr ⟨by rfl, rfl⟩) (by assumption) ?_
        try simp only [Act.put, List.setIfInBounds_toArray, List.set_cons_zero, List.set_cons_succ]
        refine wpAnyH_take (i := 22) (oi := { dst := some 69, op := Op.move (Operand.tmp 68), type := 4, pos := "law.go:85", after := #[{ on := 21, ground := Ground.data }, { on := 18, ground := Ground.chain }, { on := 18, ground := Ground.guard }], guard := some (18, true) }) (v := undef) rfl (by kernel_rfl) (by kernel_rfl) (by kernel_rfl) (fun _ _ _ h => h) (Or.inr ⟨by rfl, rfl⟩) (by assumption) ?_
        try simp only [Act.put, List.setIfInBounds_toArray, List.set_cons_zero, List.set_cons_succ]
        refine wpAnyH_take (i := 23) (oi := { dst := some 70, op := Op.move (Operand.tmp 13), type := 35, pos := "law.go:85", after := #[{ on := 22, ground := Ground.guard }], guard := some (22, false) }) (v := undef) rfl (by kernel_rfl) (by kernel_rfl) (by kernel_rfl) (fun _ _ _ h => h) (Or.inr ⟨by rfl, rfl⟩) (by assumption) ?_
        try simp only [Act.put, List.setIfInBounds_toArray, List.set_cons_zero, List.set_cons_succ]
        refine wpAnyH_take (i := 24) (oi := { dst := some 71, op := Op.indexAddr 35 (Operand.tmp 70) (Operand.const (Value.int IntKind.i64 0)), type := 0, pos := "law.go:85", after := #[{ on := 23, ground := Ground.data }, { on := 22, ground := Ground.guard }], guard := some (22, false) }) (v := undef) rfl (by kernel_rfl) (by kernel_rfl) (by kernel_rfl) (fun _ _ _ h => h) (Or.inr ⟨by rfl, rfl⟩) (by assumption) ?_
        try simp only [Act.put, List.setIfInBounds_toArray, List.set_cons_zero, List.set_cons_succ]
        refine wpAnyH_take (i := 25) (oi := { dst := some 72, op := Op.load 3 (Operand.tmp 71), type := 3, pos := "law.go:85", after := #[{ on := 24, ground := Ground.data }, { on := 22, ground := Ground.guard }], guard := some (22, false) }) (v := undef) rfl (by kernel_rfl) (by kernel_rfl) (by kernel_rfl) (fun _ _ _ h => h) (Or.inr ⟨by rfl, rfl⟩) (by assumption) ?_
        try simp only [Act.put, List.setIfInBounds_toArray, List.set_cons_zero, List.set_cons_succ]
        refine wpAnyH_take (i := 26) (oi := { dst := some 73, op := Op.fieldAddr 29 (Operand.tmp 5) 3, type := 0, pos := "law.go:85", after := #[{ on := 22, ground := Ground.guard }], guard := some (22, false) }) (v := undef) rfl (by kernel_rfl) (by kernel_rfl) (by kernel_rfl) (fun _ _ _ h => h) (Or.inr ⟨by rfl, rfl⟩) (by assumption) ?_
        try simp only [Act.put, List.setIfInBounds_toArray, List.set_cons_zero, List.set_cons_succ]
        refine wpAnyH_take (i := 27) (oi := { dst := some 74, op := Op.load 3 (Operand.tmp 73), type := 3, pos := "law.go:85", after := #[{ on := 26, ground := Ground.data }, { on := 22, ground := Ground.guard }], guard := some (22, false) }) (v := undef) rfl (by kernel_rfl) (by kernel_rfl) (by kernel_rfl) (fun _ _ _ h => h) (Or.inr ⟨by rfl, rfl⟩) (by assumption) ?_
        try simp only [Act.put, List.setIfInBounds_toArray, List.set_cons_zero, List.set_cons_succ]
        refine wpAnyH_take (i := 28) (oi := { dst := some 75, op := Op.binOp BinOp.neq 3 (Operand.tmp 72) (Operand.tmp 74) 3, type := 4, pos := "law.go:85", after := #[{ on := 25, ground := Ground.data }, { on := 27, ground := Ground.data }, { on := 22, ground := Ground.guard }], guard := some (22, false) }) (v := undef) rfl (by kernel_rfl) (by kernel_rfl) (by kernel_rfl) (fun _ _ _ h => h) (Or.inr ⟨by rfl, rfl⟩) (by assumption) ?_
        try simp only [Act.put, List.setIfInBounds_toArray, List.set_cons_zero, List.set_cons_succ]
        refine wpAnyH_take (i := 29) (oi := { dst := some 76, op := Op.pick (Operand.tmp 69) (Operand.const (Value.bool true)) (Operand.tmp 75), type := 4, pos := "law.go:85", after := #[{ on := 22, ground := Ground.data }, { on := 28, ground := Ground.data }, { on := 18, ground := Ground.guard }], guard := some (18, true) }) (v := undef) rfl (by kernel_rfl) (by kernel_rfl) (by kernel_rfl) (fun _ _ _ h => h) (Or.inr ⟨by rfl, rfl⟩) (by assumption) ?_
        try simp only [Act.put, List.setIfInBounds_toArray, List.set_cons_zero, List.set_cons_succ]
        refine wpAnyH_take (i := 30) (oi := { dst := some 77, op := Op.pick (Operand.tmp 65) (Operand.tmp 76) (Operand.const (Value.bool false)), type := 4, pos := "law.go:85", after := #[{ on := 18, ground := Ground.data }, { on := 29, ground := Ground.data }, { on := 15, ground := Ground.guard }], guard := some (15, false) }) (v := ?_) rfl (by kernel_rfl) (by kernel_rfl) (by kernel_rfl) (fun _ _ _ h => h) (Or.inl ⟨by rfl, ?_⟩) (by assumption) ?_
        rotate_left 1
        · intro w hSw
          try dsimp only at hSw
          go_simp
          try with_reducible rfl
        try simp only [Act.put, List.setIfInBounds_toArray, List.set_cons_zero, List.set_cons_succ]
        refine wpAnyH_take (i := 31) (oi := { dst := some 78, op := Op.pick (Operand.tmp 62) (Operand.const (Value.bool true)) (Operand.tmp 77), type := 4, pos := "law.go:85", after := #[{ on := 15, ground := Ground.data }, { on := 30, ground := Ground.data }], guard := none }) (v := ?_) rfl (by kernel_rfl) (by kernel_rfl) (by kernel_rfl) (fun _ _ _ h => h) (Or.inl ⟨by rfl, ?_⟩) (by assumption) ?_
        rotate_left 1
        · intro w hSw
          try dsimp only at hSw
          go_simp
          try with_reducible rfl
        try simp only [Act.put, List.setIfInBounds_toArray, List.set_cons_zero, List.set_cons_succ]
        refine wpAnyH_take (i := 32) (oi := { dst := some 79, op := Op.move (Operand.tmp 78), type := 4, pos := "law.go:85", after := #[{ on := 31, ground := Ground.data }, { on := 22, ground := Ground.chain }], guard := none }) (v := ?_) rfl (by kernel_rfl) (by kernel_rfl) (by kernel_rfl) (fun _ _ _ h => h) (Or.inl ⟨by rfl, ?_⟩) (by assumption) ?_
        rotate_left 1
        · intro w hSw
          try dsimp only at hSw
          go_simp
          try with_reducible rfl
        try simp only [Act.put, List.setIfInBounds_toArray, List.set_cons_zero, List.set_cons_succ]
        refine wpAnyH_take (i := 33) (oi := { dst := some 80, op := Op.move (Operand.tmp 12), type := 43, pos := "law.go:85", after := #[{ on := 32, ground := Ground.guard }], guard := some (32, false) }) (v := ?_) rfl (by kernel_rfl) (by kernel_rfl) (by kernel_rfl) (fun _ _ _ h => h) (Or.inl ⟨by rfl, ?_⟩) (by assumption) ?_
        rotate_left 1
        · intro w hSw
          try dsimp only at hSw
          go_simp
          try with_reducible rfl
        try simp only [Act.put, List.setIfInBounds_toArray, List.set_cons_zero, List.set_cons_succ]
        refine wpAnyH_take (i := 34) (oi := { dst := some 81, op := Op.binOp BinOp.neq 43 (Operand.tmp 80) (Operand.const (Value.int IntKind.i64 0)) 43, type := 4, pos := "law.go:85", after := #[{ on := 33, ground := Ground.data }, { on := 32, ground := Ground.guard }], guard := some (32, false) }) (v := ?_) rfl (by kernel_rfl) (by kernel_rfl) (by kernel_rfl) (fun _ _ _ h => h) (Or.inl ⟨by rfl, ?_⟩) (by assumption) ?_
        rotate_left 1
        · intro w hSw
          try dsimp only at hSw
          go_simp
          try with_reducible rfl
        try simp only [Act.put, List.setIfInBounds_toArray, List.set_cons_zero, List.set_cons_succ]
        refine wpAnyH_take (i := 35) (oi := { dst := some 82, op := Op.move (Operand.tmp 81), type := 4, pos := "law.go:85", after := #[{ on := 34, ground := Ground.data }, { on := 32, ground := Ground.chain }, { on := 32, ground := Ground.guard }], guard := some (32, false) }) (v := ?_) rfl (by kernel_rfl) (by kernel_rfl) (by kernel_rfl) (fun _ _ _ h => h) (Or.inl ⟨by rfl, ?_⟩) (by assumption) ?_
        rotate_left 1
        · intro w hSw
          try dsimp only at hSw
          go_simp
          try with_reducible rfl
        try simp only [Act.put, List.setIfInBounds_toArray, List.set_cons_zero, List.set_cons_succ]
        refine wpAnyH_take (i := 36) (oi := { dst := some 83, op := Op.move (Operand.tmp 11), type := 35, pos := "law.go:85", after := #[{ on := 35, ground := Ground.guard }], guard := some (35, true) }) (v := ?_) rfl (by kernel_rfl) (by kernel_rfl) (by kernel_rfl) (fun _ _ _ h => h) (Or.inl ⟨by rfl, ?_⟩) (by assumption) ?_
        rotate_left 1
        · intro w hSw
          try dsimp only at hSw
          go_simp
          try with_reducible rfl
        try simp only [Act.put, List.setIfInBounds_toArray, List.set_cons_zero, List.set_cons_succ]
        refine wpAnyH_take (i := 37) (oi := { dst := some 84, op := Op.move (Operand.tmp 13), type := 35, pos := "law.go:85", after := #[{ on := 35, ground := Ground.guard }], guard := some (35, true) }) (v := ?_) rfl (by kernel_rfl) (by kernel_rfl) (by kernel_rfl) (fun _ _ _ h => h) (Or.inl ⟨by rfl, ?_⟩) (by assumption) ?_
        rotate_left 1
        · intro w hSw
          try dsimp only at hSw
          go_simp
          try with_reducible rfl
        try simp only [Act.put, List.setIfInBounds_toArray, List.set_cons_zero, List.set_cons_succ]
        refine wpAnyH_ready (rs := [38]) (by kernel_rfl) (by simp) ?_
        refine AllReadyH.cons (o := { dst := some 85, op := Op.call { callee := Callee.value (Operand.func 11), args := #[Operand.tmp 83, Operand.tmp 84], argTypes := #[35, 35] }, type := 4, pos := "law.go:85", after := #[{ on := 36, ground := Ground.data }, { on := 37, ground := Ground.data }, { on := 35, ground := Ground.chain }, { on := 35, ground := Ground.guard }], guard := some (35, true) }) rfl (fun K hK => ?_) ?_
        rotate_left 1
        · exact AllReadyH.nil
        go_simp
        go_at_call 11
        refine (eq_same _ _ l' (by omega) _ _ _ h9).mono ?_
        rintro e w10 ⟨rfl, h10⟩
        go_simp
        refine hK.out _ _ trivial (fun hHeld => ?_)
        clear hK K
        try simp only [Act.put, List.setIfInBounds_toArray, List.set_cons_zero, List.set_cons_succ]
        refine wpAnyH_take (i := 39) (oi := { dst := some 86, op := Op.unOp UnOp.not 4 (Operand.tmp 85), type := 4, pos := "law.go:85", after := #[{ on := 38, ground := Ground.data }, { on := 35, ground := Ground.guard }], guard := some (35, true) }) (v := ?_) rfl (by kernel_rfl) (by kernel_rfl) (by kernel_rfl) (fun _ _ _ h => h) (Or.inl ⟨by rfl, ?_⟩) (by assumption) ?_
        rotate_left 1
        · intro w hSw
          try dsimp only at hSw
          go_simp
          try with_reducible rfl
        try simp only [Act.put, List.setIfInBounds_toArray, List.set_cons_zero, List.set_cons_succ]
        refine wpAnyH_take (i := 40) (oi := { dst := some 87, op := Op.pick (Operand.tmp 82) (Operand.tmp 86) (Operand.const (Value.bool false)), type := 4, pos := "law.go:85", after := #[{ on := 35, ground := Ground.data }, { on := 39, ground := Ground.data }, { on := 32, ground := Ground.guard }], guard := some (32, false) }) (v := ?_) rfl (by kernel_rfl) (by kernel_rfl) (by kernel_rfl) (fun _ _ _ h => h) (Or.inl ⟨by rfl, ?_⟩) (by assumption) ?_
        rotate_left 1
        · intro w hSw
          try dsimp only at hSw
          go_simp
          try with_reducible rfl
        try simp only [Act.put, List.setIfInBounds_toArray, List.set_cons_zero, List.set_cons_succ]
        refine wpAnyH_take (i := 41) (oi := { dst := some 88, op := Op.pick (Operand.tmp 79) (Operand.const (Value.bool true)) (Operand.tmp 87), type := 4, pos := "law.go:85", after := #[{ on := 32, ground := Ground.data }, { on := 40, ground := Ground.data }], guard := none }) (v := ?_) rfl (by kernel_rfl) (by kernel_rfl) (by kernel_rfl) (fun _ _ _ h => h) (Or.inl ⟨by rfl, ?_⟩) (by assumption) ?_
        rotate_left 1
        · intro w hSw
          try dsimp only at hSw
          go_simp
          try with_reducible rfl
        try simp only [Act.put, List.setIfInBounds_toArray, List.set_cons_zero, List.set_cons_succ]
        refine wpAnyH_done (by kernel_rfl) ?_ _
        go_wp2
        go_meet
        exact ⟨by first | rfl | simp, h10.drop.drop⟩
      · subst he hl0 hl1'
        rcases h8.l_cells tyZ.len with ⟨h0, _⟩ | ⟨g2, off2, cp2, hv2, _, _, _⟩
        · cases h0
        simp only [Value.slice.injEq] at hv2
        obtain ⟨rfl, hqq, rfl⟩ := hv2
        clear hqq
        have hcell : ∀ (w9 : World) (R : HP), St w w9 (LAt 3 1 intL (.slice (some ⟨g2, off2, none⟩) n2 p1) [yi] * R) → w9.cell? ⟨g2, off2, none⟩ = some (.int .i64 yi) := fun w9 R h9 => by
          have := h9.row_cell 0 (by simp)
          simpa using this
        have HCELL := Lib.hid hcell
        have b1 : decide (1 < (n1 : Int)) = false := by simp only [List.length_nil] at hn1; simp; omega
        have b2 : ((n1 : Int) == 1) = false := by simp only [List.length_nil] at hn1; simp; omega
        have b3 : ((n2 : Int) != 1) = false := by simp only [List.length_cons, List.length_nil] at hn2; simp; omega
        have b4 : 0 < n2 := by simp only [List.length_cons, List.length_nil] at hn2; omega
        have b5 : ((0 : Int) == 13) = false := by decide
        have b6 : ((0 : Int) == 0) = true := by decide
        have b7 : ((0 : Int) != 0) = false := by decide
        have b8 : (yi != yi) = false := by simp
        clear hcell hl1 hn1 hn2
        refine wp_region_held_drew (S := fun w' => w'.cell? ⟨g2, off2, none⟩ = some (.int .i64 yi) ∧ w'.cell? ⟨ga, 3, none⟩ = some (.int .i64 yi)) (by kernel_rfl) ⟨?_, ?_⟩ (fun hHeld => ?_)
        · simp only [World.cell?_drew]; exact HCELL.out _ _ h8
        · simp only [World.cell?_drew]; exact h8.f5.cell 3
        refine wpAnyH_ready (rs := [0]) (by kernel_rfl) (by simp) ?_
        refine AllReadyH.cons (o := { dst := some 47, op := Op.call { callee := Callee.value (Operand.func 8), args := #[], argTypes := #[] }, type := 4, pos := "law.go:85", after := #[], guard := none }) rfl (fun K hK => ?_) ?_
        rotate_left 1
        · exact AllReadyH.nil
        go_simp
        go_at_call 8
        refine (mx_wakes _ _ _ h8.drew).mono ?_
        rintro e w9 ⟨rfl, h9⟩
        have k2 : w9.cell? ⟨g2, off2, none⟩ = some (.int .i64 yi) := HCELL.out w9 _ h9
        have k3 : w9.cell? ⟨ga, 3, none⟩ = some (.int .i64 yi) := h9.f5.cell 3
        go_simp
        refine hK.out _ _ ⟨k2, k3⟩ (fun hHeld => ?_)
        clear hK K
        try simp only [Act.put, List.setIfInBounds_toArray, List.set_cons_zero, List.set_cons_succ]
        refine wpAnyH_take (i := 1) (oi := { dst := some 48, op := Op.unOp UnOp.not 4 (Operand.tmp 47), type := 4, pos := "law.go:85", after := #[{ on := 0, ground := Ground.data }], guard := none }) (v := ?_) rfl (by kernel_rfl) (by kernel_rfl) (by kernel_rfl) (fun _ _ _ h => h) (Or.inl ⟨by rfl, ?_⟩) (by assumption) ?_
        rotate_left 1
        · intro w hSw
          try dsimp only at hSw
          go_simp
          try with_reducible rfl
        try simp only [Act.put, List.setIfInBounds_toArray, List.set_cons_zero, List.set_cons_succ]
        refine wpAnyH_take (i := 2) (oi := { dst := some 49, op := Op.move (Operand.tmp 48), type := 4, pos := "law.go:85", after := #[{ on := 1, ground := Ground.data }, { on := 0, ground := Ground.chain }], guard := none }) (v := ?_) rfl (by kernel_rfl) (by kernel_rfl) (by kernel_rfl) (fun _ _ _ h => h) (Or.inl ⟨by rfl, ?_⟩) (by assumption) ?_
        rotate_left 1
        · intro w hSw
          try dsimp only at hSw
          go_simp
          try with_reducible rfl
        try simp only [Act.put, List.setIfInBounds_toArray, List.set_cons_zero, List.set_cons_succ]
        refine wpAnyH_take (i := 3) (oi := { dst := some 50, op := Op.move (Operand.tmp 11), type := 35, pos := "law.go:85", after := #[{ on := 2, ground := Ground.guard }], guard := some (2, false) }) (v := ?_) rfl (by kernel_rfl) (by kernel_rfl) (by kernel_rfl) (fun _ _ _ h => h) (Or.inl ⟨by rfl, ?_⟩) (by assumption) ?_
        rotate_left 1
        · intro w hSw
          try dsimp only at hSw
          go_simp
          try with_reducible rfl
        try simp only [Act.put, List.setIfInBounds_toArray, List.set_cons_zero, List.set_cons_succ]
        refine wpAnyH_take (i := 4) (oi := { dst := some 51, op := Op.call { callee := Callee.builtin Builtin.len, args := #[Operand.tmp 50], argTypes := #[35] }, type := 3, pos := "law.go:85", after := #[{ on := 3, ground := Ground.data }, { on := 2, ground := Ground.guard }], guard := some (2, false) }) (v := ?_) rfl (by kernel_rfl) (by kernel_rfl) (by kernel_rfl) (fun _ _ _ h => h) (Or.inl ⟨by rfl, ?_⟩) (by assumption) ?_
        rotate_left 1
        · intro w hSw
          try dsimp only at hSw
          go_simp
          try with_reducible rfl
        try simp only [Act.put, List.setIfInBounds_toArray, List.set_cons_zero, List.set_cons_succ]
        refine wpAnyH_take (i := 5) (oi := { dst := some 52, op := Op.binOp BinOp.gtr 3 (Operand.tmp 51) (Operand.const (Value.int IntKind.i64 1)) 3, type := 4, pos := "law.go:85", after := #[{ on := 4, ground := Ground.data }, { on := 2, ground := Ground.guard }], guard := some (2, false) }) (v := ?_) rfl (by kernel_rfl) (by kernel_rfl) (by kernel_rfl) (fun _ _ _ h => h) (Or.inl ⟨by rfl, ?_⟩) (by assumption) ?_
        rotate_left 1
        · intro w hSw
          try dsimp only at hSw
          go_simp
          try with_reducible rfl
        try simp only [Act.put, List.setIfInBounds_toArray, List.set_cons_zero, List.set_cons_succ]
        refine wpAnyH_take (i := 6) (oi := { dst := some 53, op := Op.pick (Operand.tmp 49) (Operand.const (Value.bool true)) (Operand.tmp 52), type := 4, pos := "law.go:85", after := #[{ on := 2, ground := Ground.data }, { on := 5, ground := Ground.data }], guard := none }) (v := ?_) rfl (by kernel_rfl) (by kernel_rfl) (by kernel_rfl) (fun _ _ _ h => h) (Or.inl ⟨by rfl, ?_⟩) (by assumption) ?_
        rotate_left 1
        · intro w hSw
          try dsimp only at hSw
          go_simp
          try with_reducible rfl
        try simp only [Act.put, List.setIfInBounds_toArray, List.set_cons_zero, List.set_cons_succ]
        refine wpAnyH_take (i := 7) (oi := { dst := some 54, op := Op.move (Operand.tmp 53), type := 4, pos := "law.go:85", after := #[{ on := 6, ground := Ground.data }, { on := 2, ground := Ground.chain }], guard := none }) (v := ?_) rfl (by kernel_rfl) (by kernel_rfl) (by kernel_rfl) (fun _ _ _ h => h) (Or.inl ⟨by rfl, ?_⟩) (by assumption) ?_
        rotate_left 1
        · intro w hSw
          try dsimp only at hSw
          go_simp
          try with_reducible rfl
        try simp only [Act.put, List.setIfInBounds_toArray, List.set_cons_zero, List.set_cons_succ]
        refine wpAnyH_take (i := 8) (oi := { dst := some 55, op := Op.move (Operand.tmp 12), type := 43, pos := "law.go:85", after := #[{ on := 7, ground := Ground.guard }], guard := some (7, false) }) (v := ?_) rfl (by kernel_rfl) (by kernel_rfl) (by kernel_rfl) (fun _ _ _ h => h) (Or.inl ⟨by rfl, ?_⟩) (by assumption) ?_
        rotate_left 1
        · intro w hSw
          try dsimp only at hSw
          go_simp
          try with_reducible rfl
        try simp only [Act.put, List.setIfInBounds_toArray, List.set_cons_zero, List.set_cons_succ]
        refine wpAnyH_take (i := 9) (oi := { dst := some 56, op := Op.binOp BinOp.eql 43 (Operand.tmp 55) (Operand.const (Value.int IntKind.i64 13)) 43, type := 4, pos := "law.go:85", after := #[{ on := 8, ground := Ground.data }, { on := 7, ground := Ground.guard }], guard := some (7, false) }) (v := ?_) rfl (by kernel_rfl) (by kernel_rfl) (by kernel_rfl) (fun _ _ _ h => h) (Or.inl ⟨by rfl, ?_⟩) (by assumption) ?_
        rotate_left 1
        · intro w hSw
          try dsimp only at hSw
          go_simp
          try with_reducible rfl
        try simp only [Act.put, List.setIfInBounds_toArray, List.set_cons_zero, List.set_cons_succ]
        refine wpAnyH_take (i := 10) (oi := { dst := some 57, op := Op.move (Operand.tmp 11), type := 35, pos := "law.go:85", after := #[{ on := 7, ground := Ground.guard }], guard := some (7, false) }) (v := ?_) rfl (by kernel_rfl) (by kernel_rfl) (by kernel_rfl) (fun _ _ _ h => h) (Or.inl ⟨by rfl, ?_⟩) (by assumption) ?_
        rotate_left 1
        · intro w hSw
          try dsimp only at hSw
          go_simp
          try with_reducible rfl
        try simp only [Act.put, List.setIfInBounds_toArray, List.set_cons_zero, List.set_cons_succ]
        refine wpAnyH_take (i := 11) (oi := { dst := some 58, op := Op.call { callee := Callee.builtin Builtin.len, args := #[Operand.tmp 57], argTypes := #[35] }, type := 3, pos := "law.go:85", after := #[{ on := 10, ground := Ground.data }, { on := 7, ground := Ground.guard }], guard := some (7, false) }) (v := ?_) rfl (by kernel_rfl) (by kernel_rfl) (by kernel_rfl) (fun _ _ _ h => h) (Or.inl ⟨by rfl, ?_⟩) (by assumption) ?_
        rotate_left 1
        · intro w hSw
          try dsimp only at hSw
          go_simp
          try with_reducible rfl
        try simp only [Act.put, List.setIfInBounds_toArray, List.set_cons_zero, List.set_cons_succ]
        refine wpAnyH_take (i := 12) (oi := { dst := some 59, op := Op.binOp BinOp.eql 3 (Operand.tmp 58) (Operand.const (Value.int IntKind.i64 1)) 3, type := 4, pos := "law.go:85", after := #[{ on := 11, ground := Ground.data }, { on := 7, ground := Ground.guard }], guard := some (7, false) }) (v := ?_) rfl (by kernel_rfl) (by kernel_rfl) (by kernel_rfl) (fun _ _ _ h => h) (Or.inl ⟨by rfl, ?_⟩) (by assumption) ?_
        rotate_left 1
        · intro w hSw
          try dsimp only at hSw
          go_simp
          try with_reducible rfl
        try simp only [Act.put, List.setIfInBounds_toArray, List.set_cons_zero, List.set_cons_succ]
        refine wpAnyH_take (i := 13) (oi := { dst := some 60, op := Op.binOp BinOp.neq 4 (Operand.tmp 56) (Operand.tmp 59) 4, type := 4, pos := "law.go:85", after := #[{ on := 9, ground := Ground.data }, { on := 12, ground := Ground.data }, { on := 7, ground := Ground.guard }], guard := some (7, false) }) (v := ?_) rfl (by kernel_rfl) (by kernel_rfl) (by kernel_rfl) (fun _ _ _ h => h) (Or.inl ⟨by rfl, ?_⟩) (by assumption) ?_
        rotate_left 1
        · intro w hSw
          try dsimp only at hSw
          go_simp
          try with_reducible rfl
        try simp only [Act.put, List.setIfInBounds_toArray, List.set_cons_zero, List.set_cons_succ]
        refine wpAnyH_take (i := 14) (oi := { dst := some 61, op := Op.pick (Operand.tmp 54) (Operand.const (Value.bool true)) (Operand.tmp 60), type := 4, pos := "law.go:85", after := #[{ on := 7, ground := Ground.data }, { on := 13, ground := Ground.data }], guard := none }) (v := ?_) rfl (by kernel_rfl) (by kernel_rfl) (by kernel_rfl) (fun _ _ _ h => h) (Or.inl ⟨by rfl, ?_⟩) (by assumption) ?_
        rotate_left 1
        · intro w hSw
          try dsimp only at hSw
          go_simp
          try with_reducible rfl
        try simp only [Act.put, List.setIfInBounds_toArray, List.set_cons_zero, List.set_cons_succ]
        refine wpAnyH_take (i := 15) (oi := { dst := some 62, op := Op.move (Operand.tmp 61), type := 4, pos := "law.go:85", after := #[{ on := 14, ground := Ground.data }, { on := 7, ground := Ground.chain }], guard := none }) (v := ?_) rfl (by kernel_rfl) (by kernel_rfl) (by kernel_rfl) (fun _ _ _ h => h) (Or.inl ⟨by rfl, ?_⟩) (by assumption) ?_
        rotate_left 1
        · intro w hSw
          try dsimp only at hSw
          go_simp
          try with_reducible rfl
        try simp only [Act.put, List.setIfInBounds_toArray, List.set_cons_zero, List.set_cons_succ]
        refine wpAnyH_take (i := 16) (oi := { dst := some 63, op := Op.move (Operand.tmp 12), type := 43, pos := "law.go:85", after := #[{ on := 15, ground := Ground.guard }], guard := some (15, false) }) (v := ?_) rfl (by kernel_rfl) (by kernel_rfl) (by kernel_rfl) (fun _ _ _ h => h) (Or.inl ⟨by rfl, ?_⟩) (by assumption) ?_
        rotate_left 1
        · intro w hSw
          try dsimp only at hSw
          go_simp
          try with_reducible rfl
        try simp only [Act.put, List.setIfInBounds_toArray, List.set_cons_zero, List.set_cons_succ]
        refine wpAnyH_take (i := 17) (oi := { dst := some 64, op := Op.binOp BinOp.eql 43 (Operand.tmp 63) (Operand.const (Value.int IntKind.i64 0)) 43, type := 4, pos := "law.go:85", after := #[{ on := 16, ground := Ground.data }, { on := 15, ground := Ground.guard }], guard := some (15, false) }) (v := ?_) rfl (by kernel_rfl) (by kernel_rfl) (by kernel_rfl) (fun _ _ _ h => h) (Or.inl ⟨by rfl, ?_⟩) (by assumption) ?_
        rotate_left 1
        · intro w hSw
          try dsimp only at hSw
          go_simp
          try with_reducible rfl
        try simp only [Act.put, List.setIfInBounds_toArray, List.set_cons_zero, List.set_cons_succ]
        refine wpAnyH_take (i := 18) (oi := { dst := some 65, op := Op.move (Operand.tmp 64), type := 4, pos := "law.go:85", after := #[{ on := 17, ground := Ground.data }, { on := 15, ground := Ground.chain }, { on := 15, ground := Ground.guard }], guard := some (15, false) }) (v := ?_) rfl (by kernel_rfl) (by kernel_rfl) (by kernel_rfl) (fun _ _ _ h => h) (Or.inl ⟨by rfl, ?_⟩) (by assumption) ?_
        rotate_left 1
        · intro w hSw
          try dsimp only at hSw
          go_simp
          try with_reducible rfl
        try simp only [Act.put, List.setIfInBounds_toArray, List.set_cons_zero, List.set_cons_succ]
        refine wpAnyH_take (i := 19) (oi := { dst := some 66, op := Op.move (Operand.tmp 13), type := 35, pos := "law.go:85", after := #[{ on := 18, ground := Ground.guard }], guard := some (18, true) }) (v := ?_) rfl (by kernel_rfl) (by kernel_rfl) (by kernel_rfl) (fun _ _ _ h => h) (Or.inl ⟨by rfl, ?_⟩) (by assumption) ?_
        rotate_left 1
        · intro w hSw
          try dsimp only at hSw
          go_simp
          try with_reducible rfl
        try simp only [Act.put, List.setIfInBounds_toArray, List.set_cons_zero, List.set_cons_succ]
        refine wpAnyH_take (i := 20) (oi := { dst := some 67, op := Op.call { callee := Callee.builtin Builtin.len, args := #[Operand.tmp 66], argTypes := #[35] }, type := 3, pos := "law.go:85", after := #[{ on := 19, ground := Ground.data }, { on := 18, ground := Ground.guard }], guard := some (18, true) }) (v := ?_) rfl (by kernel_rfl) (by kernel_rfl) (by kernel_rfl) (fun _ _ _ h => h) (Or.inl ⟨by rfl, ?_⟩) (by assumption) ?_
        rotate_left 1
        · intro w hSw
          try dsimp only at hSw
          go_simp
          try with_reducible rfl
        try simp only [Act.put, List.setIfInBounds_toArray, List.set_cons_zero, List.set_cons_succ]
        refine wpAnyH_take (i := 21) (oi := { dst := some 68, op := Op.binOp BinOp.neq 3 (Operand.tmp 67) (Operand.const (Value.int IntKind.i64 1)) 3, type := 4, pos := "law.go:85", after := #[{ on := 20, ground := Ground.data }, { on := 18, ground := Ground.guard }], guard := some (18, true) }) (v := ?_) rfl (by kernel_rfl) (by kernel_rfl) (by kernel_rfl) (fun _ _ _ h => h) (Or.inl ⟨by rfl, ?_⟩) (by assumption) ?_
        rotate_left 1
        · intro w hSw
          try dsimp only at hSw
          go_simp
          try with_reducible rfl
        try simp only [Act.put, List.setIfInBounds_toArray, List.set_cons_zero, List.set_cons_succ]
        refine wpAnyH_take (i := 22) (oi := { dst := some 69, op := Op.move (Operand.tmp 68), type := 4, pos := "law.go:85", after := #[{ on := 21, ground := Ground.data }, { on := 18, ground := Ground.chain }, { on := 18, ground := Ground.guard }], guard := some (18, true) }) (v := ?_) rfl (by kernel_rfl) (by kernel_rfl) (by kernel_rfl) (fun _ _ _ h => h) (Or.inl ⟨by rfl, ?_⟩) (by assumption) ?_
        rotate_left 1
        · intro w hSw
          try dsimp only at hSw
          go_simp
          try with_reducible rfl
        try simp only [Act.put, List.setIfInBounds_toArray, List.set_cons_zero, List.set_cons_succ]
        refine wpAnyH_take (i := 23) (oi := { dst := some 70, op := Op.move (Operand.tmp 13), type := 35, pos := "law.go:85", after := #[{ on := 22, ground := Ground.guard }], guard := some (22, false) }) (v := ?_) rfl (by kernel_rfl) (by kernel_rfl) (by kernel_rfl) (fun _ _ _ h => h) (Or.inl ⟨by rfl, ?_⟩) (by assumption) ?_
        rotate_left 1
        · intro w hSw
          try dsimp only at hSw
          go_simp
          try with_reducible rfl
        try simp only [Act.put, List.setIfInBounds_toArray, List.set_cons_zero, List.set_cons_succ]
        refine wpAnyH_take (i := 24) (oi := { dst := some 71, op := Op.indexAddr 35 (Operand.tmp 70) (Operand.const (Value.int IntKind.i64 0)), type := 0, pos := "law.go:85", after := #[{ on := 23, ground := Ground.data }, { on := 22, ground := Ground.guard }], guard := some (22, false) }) (v := ?_) rfl (by kernel_rfl) (by kernel_rfl) (by kernel_rfl) (fun _ _ _ h => h) (Or.inl ⟨by rfl, ?_⟩) (by assumption) ?_
        rotate_left 1
        · intro w hSw
          try dsimp only at hSw
          go_simp
          try with_reducible rfl
        try simp only [Act.put, List.setIfInBounds_toArray, List.set_cons_zero, List.set_cons_succ]
        refine wpAnyH_take (i := 25) (oi := { dst := some 72, op := Op.load 3 (Operand.tmp 71), type := 3, pos := "law.go:85", after := #[{ on := 24, ground := Ground.data }, { on := 22, ground := Ground.guard }], guard := some (22, false) }) (v := ?_) rfl (by kernel_rfl) (by kernel_rfl) (by kernel_rfl) (fun _ _ _ h => h) (Or.inl ⟨by rfl, ?_⟩) (by assumption) ?_
        rotate_left 1
        · intro w hSw
          try dsimp only at hSw
          go_simp
          try with_reducible rfl
        try simp only [Act.put, List.setIfInBounds_toArray, List.set_cons_zero, List.set_cons_succ]
        refine wpAnyH_take (i := 26) (oi := { dst := some 73, op := Op.fieldAddr 29 (Operand.tmp 5) 3, type := 0, pos := "law.go:85", after := #[{ on := 22, ground := Ground.guard }], guard := some (22, false) }) (v := ?_) rfl (by kernel_rfl) (by kernel_rfl) (by kernel_rfl) (fun _ _ _ h => h) (Or.inl ⟨by rfl, ?_⟩) (by assumption) ?_
        rotate_left 1
        · intro w hSw
          try dsimp only at hSw
          go_simp
          try with_reducible rfl
        try simp only [Act.put, List.setIfInBounds_toArray, List.set_cons_zero, List.set_cons_succ]
        refine wpAnyH_take (i := 27) (oi := { dst := some 74, op := Op.load 3 (Operand.tmp 73), type := 3, pos := "law.go:85", after := #[{ on := 26, ground := Ground.data }, { on := 22, ground := Ground.guard }], guard := some (22, false) }) (v := ?_) rfl (by kernel_rfl) (by kernel_rfl) (by kernel_rfl) (fun _ _ _ h => h) (Or.inl ⟨by rfl, ?_⟩) (by assumption) ?_
        rotate_left 1
        · intro w hSw
          try dsimp only at hSw
          go_simp
          try with_reducible rfl
        try simp only [Act.put, List.setIfInBounds_toArray, List.set_cons_zero, List.set_cons_succ]
        refine wpAnyH_take (i := 28) (oi := { dst := some 75, op := Op.binOp BinOp.neq 3 (Operand.tmp 72) (Operand.tmp 74) 3, type := 4, pos := "law.go:85", after := #[{ on := 25, ground := Ground.data }, { on := 27, ground := Ground.data }, { on := 22, ground := Ground.guard }], guard := some (22, false) }) (v := ?_) rfl (by kernel_rfl) (by kernel_rfl) (by kernel_rfl) (fun _ _ _ h => h) (Or.inl ⟨by rfl, ?_⟩) (by assumption) ?_
        rotate_left 1
        · intro w hSw
          try dsimp only at hSw
          go_simp
          try with_reducible rfl
        try simp only [Act.put, List.setIfInBounds_toArray, List.set_cons_zero, List.set_cons_succ]
        refine wpAnyH_take (i := 29) (oi := { dst := some 76, op := Op.pick (Operand.tmp 69) (Operand.const (Value.bool true)) (Operand.tmp 75), type := 4, pos := "law.go:85", after := #[{ on := 22, ground := Ground.data }, { on := 28, ground := Ground.data }, { on := 18, ground := Ground.guard }], guard := some (18, true) }) (v := ?_) rfl (by kernel_rfl) (by kernel_rfl) (by kernel_rfl) (fun _ _ _ h => h) (Or.inl ⟨by rfl, ?_⟩) (by assumption) ?_
        rotate_left 1
        · intro w hSw
          try dsimp only at hSw
          go_simp
          try with_reducible rfl
        try simp only [Act.put, List.setIfInBounds_toArray, List.set_cons_zero, List.set_cons_succ]
        refine wpAnyH_take (i := 30) (oi := { dst := some 77, op := Op.pick (Operand.tmp 65) (Operand.tmp 76) (Operand.const (Value.bool false)), type := 4, pos := "law.go:85", after := #[{ on := 18, ground := Ground.data }, { on := 29, ground := Ground.data }, { on := 15, ground := Ground.guard }], guard := some (15, false) }) (v := ?_) rfl (by kernel_rfl) (by kernel_rfl) (by kernel_rfl) (fun _ _ _ h => h) (Or.inl ⟨by rfl, ?_⟩) (by assumption) ?_
        rotate_left 1
        · intro w hSw
          try dsimp only at hSw
          go_simp
          try with_reducible rfl
        try simp only [Act.put, List.setIfInBounds_toArray, List.set_cons_zero, List.set_cons_succ]
        refine wpAnyH_take (i := 31) (oi := { dst := some 78, op := Op.pick (Operand.tmp 62) (Operand.const (Value.bool true)) (Operand.tmp 77), type := 4, pos := "law.go:85", after := #[{ on := 15, ground := Ground.data }, { on := 30, ground := Ground.data }], guard := none }) (v := ?_) rfl (by kernel_rfl) (by kernel_rfl) (by kernel_rfl) (fun _ _ _ h => h) (Or.inl ⟨by rfl, ?_⟩) (by assumption) ?_
        rotate_left 1
        · intro w hSw
          try dsimp only at hSw
          go_simp
          try with_reducible rfl
        try simp only [Act.put, List.setIfInBounds_toArray, List.set_cons_zero, List.set_cons_succ]
        refine wpAnyH_take (i := 32) (oi := { dst := some 79, op := Op.move (Operand.tmp 78), type := 4, pos := "law.go:85", after := #[{ on := 31, ground := Ground.data }, { on := 22, ground := Ground.chain }], guard := none }) (v := ?_) rfl (by kernel_rfl) (by kernel_rfl) (by kernel_rfl) (fun _ _ _ h => h) (Or.inl ⟨by rfl, ?_⟩) (by assumption) ?_
        rotate_left 1
        · intro w hSw
          try dsimp only at hSw
          go_simp
          try with_reducible rfl
        try simp only [Act.put, List.setIfInBounds_toArray, List.set_cons_zero, List.set_cons_succ]
        refine wpAnyH_take (i := 33) (oi := { dst := some 80, op := Op.move (Operand.tmp 12), type := 43, pos := "law.go:85", after := #[{ on := 32, ground := Ground.guard }], guard := some (32, false) }) (v := ?_) rfl (by kernel_rfl) (by kernel_rfl) (by kernel_rfl) (fun _ _ _ h => h) (Or.inl ⟨by rfl, ?_⟩) (by assumption) ?_
        rotate_left 1
        · intro w hSw
          try dsimp only at hSw
          go_simp
          try with_reducible rfl
        try simp only [Act.put, List.setIfInBounds_toArray, List.set_cons_zero, List.set_cons_succ]
        refine wpAnyH_take (i := 34) (oi := { dst := some 81, op := Op.binOp BinOp.neq 43 (Operand.tmp 80) (Operand.const (Value.int IntKind.i64 0)) 43, type := 4, pos := "law.go:85", after := #[{ on := 33, ground := Ground.data }, { on := 32, ground := Ground.guard }], guard := some (32, false) }) (v := ?_) rfl (by kernel_rfl) (by kernel_rfl) (by kernel_rfl) (fun _ _ _ h => h) (Or.inl ⟨by rfl, ?_⟩) (by assumption) ?_
        rotate_left 1
        · intro w hSw
          try dsimp only at hSw
          go_simp
          try with_reducible rfl
        try simp only [Act.put, List.setIfInBounds_toArray, List.set_cons_zero, List.set_cons_succ]
        refine wpAnyH_take (i := 35) (oi := { dst := some 82, op := Op.move (Operand.tmp 81), type := 4, pos := "law.go:85", after := #[{ on := 34, ground := Ground.data }, { on := 32, ground := Ground.chain }, { on := 32, ground := Ground.guard }], guard := some (32, false) }) (v := ?_) rfl (by kernel_rfl) (by kernel_rfl) (by kernel_rfl) (fun _ _ _ h => h) (Or.inl ⟨by rfl, ?_⟩) (by assumption) ?_
        rotate_left 1
        · intro w hSw
          try dsimp only at hSw
          go_simp
          try with_reducible rfl
        try simp only [Act.put, List.setIfInBounds_toArray, List.set_cons_zero, List.set_cons_succ]
        refine wpAnyH_take (i := 36) (oi := { dst := some 83, op := Op.move (Operand.tmp 11), type := 35, pos := "law.go:85", after := #[{ on := 35, ground := Ground.guard }], guard := some (35, true) }) (v := undef) rfl (by kernel_rfl) (by kernel_rfl) (by kernel_rfl) (fun _ _ _ h => h) (Or.inr ⟨by rfl, rfl⟩) (by assumption) ?_
        try simp only [Act.put, List.setIfInBounds_toArray, List.set_cons_zero, List.set_cons_succ]
        refine wpAnyH_take (i := 37) (oi := { dst := some 84, op := Op.move (Operand.tmp 13), type := 35, pos := "law.go:85", after := #[{ on := 35, ground := Ground.guard }], guard := some (35, true) }) (v := undef) rfl (by kernel_rfl) (by kernel_rfl) (by kernel_rfl) (fun _ _ _ h => h) (Or.inr ⟨by rfl, rfl⟩) (by assumption) ?_
        try simp only [Act.put, List.setIfInBounds_toArray, List.set_cons_zero, List.set_cons_succ]
        refine wpAnyH_take (i := 38) (oi := { dst := some 85, op := Op.call { callee := Callee.value (Operand.func 11), args := #[Operand.tmp 83, Operand.tmp 84], argTypes := #[35, 35] }, type := 4, pos := "law.go:85", after := #[{ on := 36, ground := Ground.data }, { on := 37, ground := Ground.data }, { on := 35, ground := Ground.chain }, { on := 35, ground := Ground.guard }], guard := some (35, true) }) (v := undef) rfl (by kernel_rfl) (by kernel_rfl) (by kernel_rfl) (fun _ _ _ h => h) (Or.inr ⟨by rfl, rfl⟩) (by assumption) ?_
        try simp only [Act.put, List.setIfInBounds_toArray, List.set_cons_zero, List.set_cons_succ]
        refine wpAnyH_take (i := 39) (oi := { dst := some 86, op := Op.unOp UnOp.not 4 (Operand.tmp 85), type := 4, pos := "law.go:85", after := #[{ on := 38, ground := Ground.data }, { on := 35, ground := Ground.guard }], guard := some (35, true) }) (v := undef) rfl (by kernel_rfl) (by kernel_rfl) (by kernel_rfl) (fun _ _ _ h => h) (Or.inr ⟨by rfl, rfl⟩) (by assumption) ?_
        try simp only [Act.put, List.setIfInBounds_toArray, List.set_cons_zero, List.set_cons_succ]
        refine wpAnyH_take (i := 40) (oi := { dst := some 87, op := Op.pick (Operand.tmp 82) (Operand.tmp 86) (Operand.const (Value.bool false)), type := 4, pos := "law.go:85", after := #[{ on := 35, ground := Ground.data }, { on := 39, ground := Ground.data }, { on := 32, ground := Ground.guard }], guard := some (32, false) }) (v := ?_) rfl (by kernel_rfl) (by kernel_rfl) (by kernel_rfl) (fun _ _ _ h => h) (Or.inl ⟨by rfl, ?_⟩) (by assumption) ?_
        rotate_left 1
        · intro w hSw
          try dsimp only at hSw
          go_simp
          try with_reducible rfl
        try simp only [Act.put, List.setIfInBounds_toArray, List.set_cons_zero, List.set_cons_succ]
        refine wpAnyH_take (i := 41) (oi := { dst := some 88, op := Op.pick (Operand.tmp 79) (Operand.const (Value.bool true)) (Operand.tmp 87), type := 4, pos := "law.go:85", after := #[{ on := 32, ground := Ground.data }, { on := 40, ground := Ground.data }], guard := none }) (v := ?_) rfl (by kernel_rfl) (by kernel_rfl) (by kernel_rfl) (fun _ _ _ h => h) (Or.inl ⟨by rfl, ?_⟩) (by assumption) ?_
        rotate_left 1
        · intro w hSw
          try dsimp only at hSw
          go_simp
          try with_reducible rfl
        try simp only [Act.put, List.setIfInBounds_toArray, List.set_cons_zero, List.set_cons_succ]
        refine wpAnyH_done (by kernel_rfl) ?_ _
        go_wp2
        go_meet
        exact ⟨by first | rfl | simp, h9.drop.f2.drop⟩
    case rest =>
      obtain ⟨rfl, hcut⟩ := hcut
      have h9 := hcut.map_new kZ vB
      clear h8 HL1 HC HN1 HN2 HR1 HR2 HJ hcut
      go_wp2
      generalize wc.alloc _ = w9 at *
      generalize wc.heap.size = gb at *
      go_loopw [90] (fun i wr => ∃ (k : Nat) (G : Got), k ≤ 127 ∧ i = .int .i64 k ∧ Hid (GotInv x'.l s k [] G) ∧ St w wr (MAt kZ vB gb G * (XAt m x' * (blk gl (.cells #[.int .i64 s, .int .i64 t] 38 (0, 0)) * (blk ga (.cells #[.int .i64 yd, .int .i64 ys, .int .i64 yt, .int .i64 yi] 29 (0, 0)) * Old w))))) (fun i _ => 127 - (intOf i).toNat)
      case atStart => exact ⟨0, [], by omega, rfl, Lib.hid (GotInv.start x'.l (fun p hp => (HOK'.out.rng p hp).2.2.1) s), h9⟩
      case round =>
        clear h9
        obtain ⟨k, G, hk127, rfl, HI, h10⟩ := hrel
        have c := h10.f3.cell
        by_cases hlt : k < 127
        · have hok2 : okL (s, (k : Int)) := ⟨WalkArith.wf_i64 (by omega), WalkArith.wf_i64 (by omega)⟩
          obtain ⟨rs, hrs⟩ : ∃ rs, x'.route (s, (k : Int)) = rs := ⟨_, rfl⟩
          have hrl := route_len x' (s, (k : Int))
          have hrw := route_wf HWF'.out (s, (k : Int))
          rw [hrs] at hrl hrw
          have HRW := Lib.hid hrw
          have HRS := Lib.hid hrs
          clear hrw hrs
          go_wp2_with fail
          refine (x_route m x' (s, (k : Int)) hok2 _ _ _ h10.f2 (by omega)).mono ?_
          rintro e w11 ⟨v, rfl, h11⟩
          rw [HRS.out] at h11
          obtain ⟨q, p, rfl, _, _⟩ := h11.l_shape
          obtain ⟨n3, hn3⟩ : ∃ n, rs.length = n := ⟨_, rfl⟩
          rw [hn3] at h11 hrl
          rw [hn3]
          have HN3 := Lib.hid hn3
          clear h10 c hn3
          go_wp2
          go_loopw [100] (fun i wr => ∃ (j : Nat) (G : Got), j ≤ n3 ∧ i = .int .i64 j ∧ Hid (GotInv x'.l s k (rs.take j) G) ∧ St w wr (LAt 3 1 intL (.slice q n3 p) rs * (XAt m x' * (MAt kZ vB gb G * (blk gl (.cells #[.int .i64 s, .int .i64 t] 38 (0, 0)) * (blk ga (.cells #[.int .i64 yd, .int .i64 ys, .int .i64 yt, .int .i64 yi] 29 (0, 0)) * Old w)))))) (fun i _ => n3 - (intOf i).toNat)
          case atStart => exact ⟨0, G, by omega, rfl, HI, h11⟩
          case round =>
            clear h11 HI
            obtain ⟨j, G, hj, rfl, HI, h12⟩ := hrel
            by_cases hlj : j < n3
            · obtain ⟨a, ha⟩ : ∃ a, rs[j]? = some a := ⟨_, List.getElem?_eq_getElem (by rw [HN3.out]; exact hlj)⟩
              have hka : kZ.ok a := HRW.out a (List.mem_of_getElem? ha)
              have HN := Lib.hid (show GotInv x'.l s k (rs.take (j + 1)) (mput G a true) by
                rw [List.take_add_one, ha]
                exact HI.out.more a)
              rcases h12.l_cells tyZ.len with ⟨h0, _⟩ | ⟨g, off, cp, hv, _, _, hcell⟩
              · rw [h0] at ha; simp at ha
              simp only [Value.slice.injEq] at hv
              obtain ⟨rfl, hqq, rfl⟩ := hv
              clear hqq
              have d0 : wr.cell? ⟨g, off + j, none⟩ = some (.int .i64 a) := by simpa using hcell j _ ha 0 _ rfl
              clear hcell ha HI
              go_wp2_with (at_mapUpdate; refine wp_mput rfl (.tmp 104) (.tmp 105) (.const (Value.bool true)) 45 rfl tyIds h12.f3 rfl a rfl hka true rfl ?_; intro w13 h13)
              go_roundw
              case rel => exact ⟨j + 1, _, by omega, by go_num, HN, h13.b3⟩
              case measure => simp [intOf]; omega
            · have ht : rs.take j = rs := List.take_of_length_le (by rw [HN3.out]; omega)
              have hfin := HI.out
              rw [ht, ← HRS.out] at hfin
              have HF := Lib.hid (hfin.next HOK'.out.nd hlt)
              clear ht hfin HI
              go_wp2
              go_roundw
              case rel => exact ⟨k + 1, G, by omega, by go_num, HF, h12.drop.f2⟩
              case measure => simp [intOf]; omega
        · obtain rfl : k = 127 := by omega
          have hok2 : okL (s, (127 : Int)) := ⟨WalkArith.wf_i64 (by omega), WalkArith.wf_i64 (by omega)⟩
          obtain ⟨A, hA⟩ : ∃ A, x'.route (s, 127) = A := ⟨_, rfl⟩
          obtain ⟨hA1, hA2, hA3⟩ := HI.out.done HOK'.out h10.map_nodup
          have hrl := route_len x' (s, 127)
          have hrw := route_wf HWF'.out (s, 127)
          rw [hA] at hA1 hA2 hA3 hrl hrw
          have HA1 := Lib.hid hA1
          have HA2 := Lib.hid hA2
          have HA3 := Lib.hid hA3
          have HRW := Lib.hid hrw
          have HA := Lib.hid hA
          clear hA hA1 hA2 hA3 hrw HI
          go_wp2_with fail
          refine (x_route m x' (s, 127) hok2 _ _ _ h10.f2 (by omega)).mono ?_
          rintro e w11 ⟨v, rfl, h11⟩
          rw [HA.out] at h11
          obtain ⟨q, p, rfl, _, _⟩ := h11.l_shape
          obtain ⟨n4, hn4⟩ : ∃ n, A.length = n := ⟨_, rfl⟩
          rw [hn4] at h11 hrl
          rw [hn4]
          have HN4 := Lib.hid hn4
          clear h10 c hn4 hlt hk127
          go_wp2
          go_loopw [115] (fun i wr => ∃ j : Nat, j ≤ n4 ∧ i = .int .i64 j ∧ St w wr (LAt 3 1 intL (.slice q n4 p) A * (XAt m x' * (MAt kZ vB gb G * (blk gl (.cells #[.int .i64 s, .int .i64 t] 38 (0, 0)) * (blk ga (.cells #[.int .i64 yd, .int .i64 ys, .int .i64 yt, .int .i64 yi] 29 (0, 0)) * Old w)))))) (fun i _ => n4 - (intOf i).toNat)
          case atStart => exact ⟨0, by omega, rfl, h11⟩
          case round =>
            clear h11
            obtain ⟨j, hj, rfl, h12⟩ := hrel
            by_cases hlj : j < n4
            · obtain ⟨a, ha⟩ : ∃ a, A[j]? = some a := ⟨_, List.getElem?_eq_getElem (by rw [HN4.out]; exact hlj)⟩
              have hka : kZ.ok a := HRW.out a (List.mem_of_getElem? ha)
              have hl : (Instr.lookup 45 (.map (some gb)) (.int .i64 a) false).run Try.prog wr = .ok (.bool true) wr := by
                have := h12.f3.map_look tyIds a hka (zeroB _) false
                rw [HA2.out a (List.mem_of_getElem? ha)] at this
                exact this
              rcases h12.l_cells tyZ.len with ⟨h0, _⟩ | ⟨g, off, cp, hv, _, _, hcell⟩
              · rw [h0] at ha; simp at ha
              simp only [Value.slice.injEq] at hv
              obtain ⟨rfl, hqq, rfl⟩ := hv
              clear hqq
              have d0 : wr.cell? ⟨g, off + j, none⟩ = some (.int .i64 a) := by simpa using hcell j _ ha 0 _ rfl
              cases j with
              | zero =>
                have b1 : decide (0 < ((0 : Nat) : Int)) = false := by simp
                have b2 : decide ((0 : Int) < 0) = false := by simp
                have e0 : wr.cell? ⟨g, off, none⟩ = some (.int .i64 a) := d0
                clear hcell ha d0
                go_wp2
                go_roundw
                case rel => exact ⟨1, by omega, by go_num, h12⟩
                case measure => simp [intOf]; omega
              | succ jj =>
                obtain ⟨b, hb⟩ : ∃ b, A[jj]? = some b := ⟨_, List.getElem?_eq_getElem (by rw [HN4.out]; omega)⟩
                have d1 : wr.cell? ⟨g, off + jj, none⟩ = some (.int .i64 b) := by simpa using hcell jj _ hb 0 _ rfl
                have hba : b < a := by
                  have h1 := List.getElem?_eq_some_iff.1 hb
                  have h2 := List.getElem?_eq_some_iff.1 ha
                  have := (List.pairwise_iff_getElem.1 HA1.out) jj (jj + 1) h1.1 h2.1 (by omega)
                  rw [h1.2, h2.2] at this
                  exact this
                have b1 : decide (0 < ((jj + 1 : Nat) : Int)) = true := by first | (simp; done) | (simp; omega)
                have b2 : decide (a ≤ b) = false := by simp; omega
                have b3 : decide (b ≥ a) = false := by simp; omega
                have hw : IntKind.i64.wrap (((jj + 1 : Nat) : Int) - 1) = (jj : Int) := by rw [IntKind.wrap_i64]; omega
                have hjn : jj < n4 := by omega
                clear hcell ha hb
                go_wp2
                go_roundw
                case rel => exact ⟨jj + 1 + 1, by omega, by go_num, h12⟩
                case measure => simp [intOf]; omega
            · have hln := fun ty => h12.f3.map_len tyIds.ht ty
              rw [← HA3.out, HN4.out] at hln
              go_wp2
              go_ret
              exact ⟨by first | rfl | simp, h12.drop.drop.drop.drop.drop.old0⟩
end Go.Proofs.Ytkcclijckpbobaa
