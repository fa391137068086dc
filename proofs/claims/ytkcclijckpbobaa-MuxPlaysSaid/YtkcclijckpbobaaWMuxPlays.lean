/- MuxPlays: the walk. -/
import Derived.Test.YtkcclijckpbobaaMuxRun
import Derived.Test.YtkcclijckpbobaaAppOld
namespace Go.Proofs.Ytkcclijckpbobaa
open Go.RowKit Go.Sort

abbrev maC (x : MAct) : List Value := [.int .i64 x.d, .int .i64 x.s, .int .i64 x.t, .int .i64 x.id]
theorem tyMa : ETy Try.prog 22 29 4 32 maC :=
  ⟨Try.underlying22, ⟨.agg #[.int .i64 0, .int .i64 0, .int .i64 0, .int .i64 0], by kernel_rfl, rfl⟩, fun _ => rfl, fun b u hu => by simp [maC] at hu; rcases hu with rfl | rfl | rfl | rfl <;> rfl, by decide, by decide⟩
theorem route_len' (x : Mx) (k : Lk) : (x.route k).length ≤ x.l.length + 1 := by
  unfold Mx.route
  split
  · split
    · simp
    · simp
  · have h1 := setI_len ((x.l.filter fun p => decide (p.1.1 = k.1)).map (·.2))
    have h2 := List.length_filter_le (fun p : En => decide (p.1.1 = k.1)) x.l
    rw [List.length_map] at h1
    omega
/-- the acts that a slice shows -/
def ActsAt (w : World) (g off : Nat) (l : List MAct) : Prop := ∀ i x, l[i]? = some x → x.ok ∧ ∀ r u, (maC x)[r]? = some u → w.cell? ⟨g, off + i * 4 + r, none⟩ = some u
theorem acts_of {w : World} {g off n : Nat} (h : ∀ i, i < n → ∃ x : MAct, x.ok ∧ w.cell? ⟨g, off + i * 4, none⟩ = some (.int .i64 x.d) ∧ w.cell? ⟨g, off + i * 4 + 1, none⟩ = some (.int .i64 x.s) ∧ w.cell? ⟨g, off + i * 4 + 2, none⟩ = some (.int .i64 x.t) ∧ w.cell? ⟨g, off + i * 4 + 3, none⟩ = some (.int .i64 x.id)) :
    ∃ l : List MAct, l.length = n ∧ ActsAt w g off l := by
  obtain ⟨l, hl, hp⟩ := things_of n h
  refine ⟨l, hl, fun i x hx => ?_⟩
  obtain ⟨h1, h2, h3, h4, h5⟩ := hp i x hx
  refine ⟨h1, fun r u hr => ?_⟩
  match r, hr with
  | 0, hr => obtain rfl := (Option.some.inj hr).symm; exact h2
  | 1, hr => obtain rfl := (Option.some.inj hr).symm; exact h3
  | 2, hr => obtain rfl := (Option.some.inj hr).symm; exact h4
  | 3, hr => obtain rfl := (Option.some.inj hr).symm; exact h5

set_option maxRecDepth 100000 in
set_option maxHeartbeats 3200000 in
theorem MuxPlays.walk (a0 : Int) (a1 : Option Addr) (len1 cap1 : Nat) (a2 : Option Addr) (len2 cap2 : Nat) (w : World) (w0 : (Lit.int .i64 a0).wf = true) (w1 : (Sh.slice MASh).ok w [.slice a1 len1 cap1]) (w2 : (Sh.slice MASh).ok w [.slice a2 len2 cap2]) :
    Calls Try.prog 3 #[.int .i64 a0, .slice a1 len1 cap1, .slice a2 len2 cap2] w fun e w' => e = .returned (.bool true) ∧ Below w.heap.size w w' := by
  have hrun := mx_run a0 a1 len1 cap1 w w (Old w) w1 (fun A wr h => h.drop.old0) (St.start w)
  obtain ⟨l1, l2, l3⟩ := ma_script w1
  obtain ⟨m1, m2, m3⟩ := ma_script w2
  unfold maxLen at l2 m2
  have L3 := Lib.hid l3
  have M3 := Lib.hid m3
  clear w0 w1 w2 l3 m3
  go_enter Try.func3, Try.ntmps3
  go_wp2_with fail
  refine hrun.mono ?_
  rintro e w3 ⟨m, r, x, L, rfl, ok, hR, hmo, _, h3⟩
  have HOK := Lib.hid ok
  have HR := Lib.hid hR
  clear hrun hmo ok hR
  go_wp2_with fail
  refine (mx_wakes _ _ _ h3).mono ?_
  rintro e wz ⟨rfl, h4⟩
  clear h3
  obtain ⟨na, hna⟩ : ∃ na : Nat, min (len2 : Int) 20 = (na : Int) := ⟨(min (len2 : Int) 20).toNat, by omega⟩
  obtain ⟨nb, hnb⟩ : ∃ nb : Nat, min (len1 : Int) 20 = (nb : Int) := ⟨(min (len1 : Int) 20).toNat, by omega⟩
  have ha1 : na ≤ cap2 := by omega
  have hb1 : nb ≤ cap1 := by omega
  go_upto_region 4 with fail
  go_cut [41, 42, 43] (fun s41 s42 s43 wx => ∃ (K : HP) (n cap : Nat) (b : Option Addr), n ≤ 40 ∧ s41 = .slice b n cap ∧ s42 = .int .i64 n ∧ s43 = .int .i64 0 ∧ St w wx (K * (XAt m x * (MRef r (mostOf a0) L * Old w))) ∧ Hid (0 < n → ∃ g off, b = some ⟨g, off, none⟩ ∧ ∀ (W : World) (X : HP), St w W (K * (X * Old w)) → ∃ l : List MAct, l.length = n ∧ ActsAt W g off l))
  case first =>
    have hA : na ≤ len2 := by omega
    have hB : nb ≤ len1 := by omega
    have hna20 : na ≤ 20 := by omega
    have hnb20 : nb ≤ 20 := by omega
    have M4 : Hid (0 < na → ∃ g off, a2 = some ⟨g, off, none⟩ ∧ ∀ (W : World) (X : HP), St w W (X * Old w) → ∃ l : List MAct, l.length = na ∧ ActsAt W g off l) := Lib.hid fun h0 => by
      obtain ⟨b, off, rfl, hb, hi⟩ := M3.out (by omega)
      refine ⟨b, off, rfl, fun W X hW => ?_⟩
      have hbel := hW.drop.old0
      refine acts_of fun i hil => ?_
      obtain ⟨y, yok, c0, c1, c2, c3⟩ := hi i (by omega)
      exact ⟨y, yok, (hbel.cell (p := ⟨b, off + i * 4, none⟩) hb).trans c0, (hbel.cell (p := ⟨b, off + i * 4 + 1, none⟩) hb).trans c1, (hbel.cell (p := ⟨b, off + i * 4 + 2, none⟩) hb).trans c2, (hbel.cell (p := ⟨b, off + i * 4 + 3, none⟩) hb).trans c3⟩
    have N4 : Hid (0 < nb → ∃ g off, a1 = some ⟨g, off, none⟩ ∧ ∀ (W : World) (X : HP), St w W (X * Old w) → ∃ l : List MAct, l.length = nb ∧ ActsAt W g off l) := Lib.hid fun h0 => by
      obtain ⟨b, off, rfl, hb, hi⟩ := L3.out (by omega)
      refine ⟨b, off, rfl, fun W X hW => ?_⟩
      have hbel := hW.drop.old0
      refine acts_of fun i hil => ?_
      obtain ⟨y, yok, c0, c1, c2, c3⟩ := hi i (by omega)
      exact ⟨y, yok, (hbel.cell (p := ⟨b, off + i * 4, none⟩) hb).trans c0, (hbel.cell (p := ⟨b, off + i * 4 + 1, none⟩) hb).trans c1, (hbel.cell (p := ⟨b, off + i * 4 + 2, none⟩) hb).trans c2, (hbel.cell (p := ⟨b, off + i * 4 + 3, none⟩) hb).trans c3⟩
    have h5 := h4.drew
    by_cases h0 : nb = 0
    · subst h0
      clear hA hB
      refine wp_region_held_drew (S := fun _ => True) (by kernel_rfl) trivial (fun hHeld => ?_)
      refine wpAnyH_take (i := 0) (oi := { dst := some 28, op := Op.move (Operand.tmp 2), type := 22, pos := "law.go:64", after := #[], guard := none }) (v := ?_) rfl (by kernel_rfl) (by kernel_rfl) (by kernel_rfl) (fun _ _ _ h => h) (Or.inl ⟨by rfl, ?_⟩) (by assumption) ?_
      rotate_left 1
      · intro w hSw
        try dsimp only at hSw
        go_simp
        try with_reducible rfl
      try simp only [Act.put, List.setIfInBounds_toArray, List.set_cons_zero, List.set_cons_succ]
      refine wpAnyH_take (i := 1) (oi := { dst := some 29, op := Op.move (Operand.tmp 2), type := 22, pos := "law.go:64", after := #[], guard := none }) (v := ?_) rfl (by kernel_rfl) (by kernel_rfl) (by kernel_rfl) (fun _ _ _ h => h) (Or.inl ⟨by rfl, ?_⟩) (by assumption) ?_
      rotate_left 1
      · intro w hSw
        try dsimp only at hSw
        go_simp
        try with_reducible rfl
      try simp only [Act.put, List.setIfInBounds_toArray, List.set_cons_zero, List.set_cons_succ]
      refine wpAnyH_take (i := 2) (oi := { dst := some 30, op := Op.call { callee := Callee.builtin Builtin.len, args := #[Operand.tmp 29], argTypes := #[22] }, type := 3, pos := "law.go:64", after := #[{ on := 1, ground := Ground.data }], guard := none }) (v := ?_) rfl (by kernel_rfl) (by kernel_rfl) (by kernel_rfl) (fun _ _ _ h => h) (Or.inl ⟨by rfl, ?_⟩) (by assumption) ?_
      rotate_left 1
      · intro w hSw
        try dsimp only at hSw
        go_simp
        try with_reducible rfl
      try simp only [Act.put, List.setIfInBounds_toArray, List.set_cons_zero, List.set_cons_succ]
      refine wpAnyH_take (i := 3) (oi := { dst := some 31, op := Op.call { callee := Callee.builtin Builtin.min, args := #[Operand.tmp 30, Operand.const (Value.int IntKind.i64 20)], argTypes := #[3, 3] }, type := 3, pos := "law.go:64", after := #[{ on := 2, ground := Ground.data }], guard := none }) (v := ?_) rfl (by kernel_rfl) (by kernel_rfl) (by kernel_rfl) (fun _ _ _ h => h) (Or.inl ⟨by rfl, ?_⟩) (by assumption) ?_
      rotate_left 1
      · intro w hSw
        try dsimp only at hSw
        go_simp
        try with_reducible rfl
      try simp only [Act.put, List.setIfInBounds_toArray, List.set_cons_zero, List.set_cons_succ]
      refine wpAnyH_take (i := 4) (oi := { dst := some 32, op := Op.move (Operand.tmp 2), type := 22, pos := "law.go:64", after := #[], guard := none }) (v := ?_) rfl (by kernel_rfl) (by kernel_rfl) (by kernel_rfl) (fun _ _ _ h => h) (Or.inl ⟨by rfl, ?_⟩) (by assumption) ?_
      rotate_left 1
      · intro w hSw
        try dsimp only at hSw
        go_simp
        try with_reducible rfl
      try simp only [Act.put, List.setIfInBounds_toArray, List.set_cons_zero, List.set_cons_succ]
      refine wpAnyH_take (i := 5) (oi := { dst := some 33, op := Op.call { callee := Callee.builtin Builtin.len, args := #[Operand.tmp 32], argTypes := #[22] }, type := 3, pos := "law.go:64", after := #[{ on := 4, ground := Ground.data }], guard := none }) (v := ?_) rfl (by kernel_rfl) (by kernel_rfl) (by kernel_rfl) (fun _ _ _ h => h) (Or.inl ⟨by rfl, ?_⟩) (by assumption) ?_
      rotate_left 1
      · intro w hSw
        try dsimp only at hSw
        go_simp
        try with_reducible rfl
      try simp only [Act.put, List.setIfInBounds_toArray, List.set_cons_zero, List.set_cons_succ]
      refine wpAnyH_take (i := 6) (oi := { dst := some 34, op := Op.call { callee := Callee.builtin Builtin.min, args := #[Operand.tmp 33, Operand.const (Value.int IntKind.i64 20)], argTypes := #[3, 3] }, type := 3, pos := "law.go:64", after := #[{ on := 5, ground := Ground.data }], guard := none }) (v := ?_) rfl (by kernel_rfl) (by kernel_rfl) (by kernel_rfl) (fun _ _ _ h => h) (Or.inl ⟨by rfl, ?_⟩) (by assumption) ?_
      rotate_left 1
      · intro w hSw
        try dsimp only at hSw
        go_simp
        try with_reducible rfl
      try simp only [Act.put, List.setIfInBounds_toArray, List.set_cons_zero, List.set_cons_succ]
      refine wpAnyH_take (i := 7) (oi := { dst := some 35, op := Op.slice 22 (Operand.tmp 28) none (some (Operand.tmp 31)) (some (Operand.tmp 34)), type := 22, pos := "law.go:64", after := #[{ on := 0, ground := Ground.data }, { on := 3, ground := Ground.data }, { on := 6, ground := Ground.data }], guard := none }) (v := ?_) rfl (by kernel_rfl) (by kernel_rfl) (by kernel_rfl) (fun _ _ _ h => h) (Or.inl ⟨by rfl, ?_⟩) (by assumption) ?_
      rotate_left 1
      · intro w hSw
        try dsimp only at hSw
        go_simp
        try with_reducible rfl
      try simp only [Act.put, List.setIfInBounds_toArray, List.set_cons_zero, List.set_cons_succ]
      refine wpAnyH_take (i := 8) (oi := { dst := some 36, op := Op.move (Operand.tmp 1), type := 22, pos := "law.go:64", after := #[], guard := none }) (v := ?_) rfl (by kernel_rfl) (by kernel_rfl) (by kernel_rfl) (fun _ _ _ h => h) (Or.inl ⟨by rfl, ?_⟩) (by assumption) ?_
      rotate_left 1
      · intro w hSw
        try dsimp only at hSw
        go_simp
        try with_reducible rfl
      try simp only [Act.put, List.setIfInBounds_toArray, List.set_cons_zero, List.set_cons_succ]
      refine wpAnyH_take (i := 9) (oi := { dst := some 37, op := Op.move (Operand.tmp 1), type := 22, pos := "law.go:64", after := #[], guard := none }) (v := ?_) rfl (by kernel_rfl) (by kernel_rfl) (by kernel_rfl) (fun _ _ _ h => h) (Or.inl ⟨by rfl, ?_⟩) (by assumption) ?_
      rotate_left 1
      · intro w hSw
        try dsimp only at hSw
        go_simp
        try with_reducible rfl
      try simp only [Act.put, List.setIfInBounds_toArray, List.set_cons_zero, List.set_cons_succ]
      refine wpAnyH_take (i := 10) (oi := { dst := some 38, op := Op.call { callee := Callee.builtin Builtin.len, args := #[Operand.tmp 37], argTypes := #[22] }, type := 3, pos := "law.go:64", after := #[{ on := 9, ground := Ground.data }], guard := none }) (v := ?_) rfl (by kernel_rfl) (by kernel_rfl) (by kernel_rfl) (fun _ _ _ h => h) (Or.inl ⟨by rfl, ?_⟩) (by assumption) ?_
      rotate_left 1
      · intro w hSw
        try dsimp only at hSw
        go_simp
        try with_reducible rfl
      try simp only [Act.put, List.setIfInBounds_toArray, List.set_cons_zero, List.set_cons_succ]
      refine wpAnyH_take (i := 11) (oi := { dst := some 39, op := Op.call { callee := Callee.builtin Builtin.min, args := #[Operand.tmp 38, Operand.const (Value.int IntKind.i64 20)], argTypes := #[3, 3] }, type := 3, pos := "law.go:64", after := #[{ on := 10, ground := Ground.data }], guard := none }) (v := ?_) rfl (by kernel_rfl) (by kernel_rfl) (by kernel_rfl) (fun _ _ _ h => h) (Or.inl ⟨by rfl, ?_⟩) (by assumption) ?_
      rotate_left 1
      · intro w hSw
        try dsimp only at hSw
        go_simp
        try with_reducible rfl
      try simp only [Act.put, List.setIfInBounds_toArray, List.set_cons_zero, List.set_cons_succ]
      refine wpAnyH_take (i := 12) (oi := { dst := some 40, op := Op.slice 22 (Operand.tmp 36) none (some (Operand.tmp 39)) none, type := 22, pos := "law.go:64", after := #[{ on := 8, ground := Ground.data }, { on := 11, ground := Ground.data }], guard := none }) (v := ?_) rfl (by kernel_rfl) (by kernel_rfl) (by kernel_rfl) (fun _ _ _ h => h) (Or.inl ⟨by rfl, ?_⟩) (by assumption) ?_
      rotate_left 1
      · intro w hSw
        try dsimp only at hSw
        go_simp
        try with_reducible rfl
      try simp only [Act.put, List.setIfInBounds_toArray, List.set_cons_zero, List.set_cons_succ]
      refine wpAnyH_take (i := 15) (oi := { dst := some 43, op := Op.move (Operand.const (Value.int IntKind.i64 0)), type := 3, pos := "law.go:64", after := #[], guard := none }) (v := ?_) rfl (by kernel_rfl) (by kernel_rfl) (by kernel_rfl) (fun _ _ _ h => h) (Or.inl ⟨by rfl, ?_⟩) (by assumption) ?_
      rotate_left 1
      · intro w hSw
        try dsimp only at hSw
        go_simp
        try with_reducible rfl
      try simp only [Act.put, List.setIfInBounds_toArray, List.set_cons_zero, List.set_cons_succ]
      refine wpAnyH_ready (rs := [13]) (by kernel_rfl) (by simp) ?_
      refine AllReadyH.cons (o := { dst := some 41, op := Op.call { callee := Callee.builtin Builtin.append, args := #[Operand.tmp 35, Operand.tmp 40], argTypes := #[22, 22] }, type := 22, pos := "law.go:64", after := #[{ on := 7, ground := Ground.data }, { on := 12, ground := Ground.data }], guard := none }) rfl (fun K hK => ?_) ?_
      rotate_left 1
      · exact AllReadyH.nil
      refine step_wanted rfl (wp_append_none (.tmp 35) (.tmp 40) rfl tyMa (Nat.le_refl na) rfl rfl ?_)
      refine hK.out _ _ trivial (fun hHeld => ?_)
      clear hK K
      try simp only [Act.put, List.setIfInBounds_toArray, List.set_cons_zero, List.set_cons_succ]
      refine wpAnyH_take (i := 14) (oi := { dst := some 42, op := Op.call { callee := Callee.builtin Builtin.len, args := #[Operand.tmp 41], argTypes := #[22] }, type := 3, pos := "law.go:64", after := #[{ on := 13, ground := Ground.data }], guard := none }) (v := ?_) rfl (by kernel_rfl) (by kernel_rfl) (by kernel_rfl) (fun _ _ _ h => h) (Or.inl ⟨by rfl, ?_⟩) (by assumption) ?_
      rotate_left 1
      · intro w hSw
        try dsimp only at hSw
        go_simp
        try with_reducible rfl
      try simp only [Act.put, List.setIfInBounds_toArray, List.set_cons_zero, List.set_cons_succ]
      refine wpAnyH_done (by kernel_rfl) ?_ _
      go_wp2
      go_meet
      refine ⟨1, na, na, a2, by omega, rfl, rfl, rfl, by rw [one_star]; exact h5, Lib.hid fun h0 => ?_⟩
      obtain ⟨g, off, e, hg⟩ := M4.out h0
      exact ⟨g, off, e, fun W X hW => hg W X (by rw [one_star] at hW; exact hW)⟩
    · obtain ⟨g1, o1, rfl, hN⟩ := N4.out (by omega)
      obtain ⟨lb, hlb, hAb⟩ := hN _ (XAt m x * MRef r (mostOf a0) L) (h5.eq (star_assoc _ _ _).symm)
      obtain ⟨la, hla, hoka, hAa⟩ : ∃ la : List MAct, la.length = na ∧ (∀ x ∈ la, x.ok) ∧ (la ≠ [] → ∃ b', a2 = some b' ∧ ∀ j u, (la.flatMap maC)[j]? = some u → wz.drew.cell? (b'.add j) = some u) := by
        by_cases hz : na = 0
        · exact ⟨[], by simp [hz], by simp, fun h => absurd rfl h⟩
        · obtain ⟨g2, o2, e2, hM⟩ := M4.out (by omega)
          obtain ⟨la, hla, hAa⟩ := hM _ (XAt m x * MRef r (mostOf a0) L) (h5.eq (star_assoc _ _ _).symm)
          refine ⟨la, hla, fun x hx => ?_, fun _ => ⟨_, e2, flat_cells tyMa.len (by decide) fun i x hx => (hAa i x hx).2⟩⟩
          obtain ⟨i, hi⟩ := List.getElem?_of_mem hx
          exact (hAa i x hi).1
      have hokb : ∀ x ∈ lb, x.ok := fun x hx => by
        obtain ⟨i, hi⟩ := List.getElem?_of_mem hx
        exact (hAb i x hi).1
      have hfb := flat_cells tyMa.len (by decide) fun i x hx => (hAb i x hx).2
      have hne : lb ≠ [] := by rintro rfl; simp at hlb; omega
      have HOA := Lib.hid hoka
      have HOB := Lib.hid hokb
      have HFA := Lib.hid hAa
      have HFB := Lib.hid hfb
      clear hA hB hoka hokb hAa hfb hAb hN
      refine wp_region_held_drew (S := fun _ => True) (by kernel_rfl) trivial (fun hHeld => ?_)
      refine wpAnyH_take (i := 0) (oi := { dst := some 28, op := Op.move (Operand.tmp 2), type := 22, pos := "law.go:64", after := #[], guard := none }) (v := ?_) rfl (by kernel_rfl) (by kernel_rfl) (by kernel_rfl) (fun _ _ _ h => h) (Or.inl ⟨by rfl, ?_⟩) (by assumption) ?_
      rotate_left 1
      · intro w hSw
        try dsimp only at hSw
        go_simp
        try with_reducible rfl
      try simp only [Act.put, List.setIfInBounds_toArray, List.set_cons_zero, List.set_cons_succ]
      refine wpAnyH_take (i := 1) (oi := { dst := some 29, op := Op.move (Operand.tmp 2), type := 22, pos := "law.go:64", after := #[], guard := none }) (v := ?_) rfl (by kernel_rfl) (by kernel_rfl) (by kernel_rfl) (fun _ _ _ h => h) (Or.inl ⟨by rfl, ?_⟩) (by assumption) ?_
      rotate_left 1
      · intro w hSw
        try dsimp only at hSw
        go_simp
        try with_reducible rfl
      try simp only [Act.put, List.setIfInBounds_toArray, List.set_cons_zero, List.set_cons_succ]
      refine wpAnyH_take (i := 2) (oi := { dst := some 30, op := Op.call { callee := Callee.builtin Builtin.len, args := #[Operand.tmp 29], argTypes := #[22] }, type := 3, pos := "law.go:64", after := #[{ on := 1, ground := Ground.data }], guard := none }) (v := ?_) rfl (by kernel_rfl) (by kernel_rfl) (by kernel_rfl) (fun _ _ _ h => h) (Or.inl ⟨by rfl, ?_⟩) (by assumption) ?_
      rotate_left 1
      · intro w hSw
        try dsimp only at hSw
        go_simp
        try with_reducible rfl
      try simp only [Act.put, List.setIfInBounds_toArray, List.set_cons_zero, List.set_cons_succ]
      refine wpAnyH_take (i := 3) (oi := { dst := some 31, op := Op.call { callee := Callee.builtin Builtin.min, args := #[Operand.tmp 30, Operand.const (Value.int IntKind.i64 20)], argTypes := #[3, 3] }, type := 3, pos := "law.go:64", after := #[{ on := 2, ground := Ground.data }], guard := none }) (v := ?_) rfl (by kernel_rfl) (by kernel_rfl) (by kernel_rfl) (fun _ _ _ h => h) (Or.inl ⟨by rfl, ?_⟩) (by assumption) ?_
      rotate_left 1
      · intro w hSw
        try dsimp only at hSw
        go_simp
        try with_reducible rfl
      try simp only [Act.put, List.setIfInBounds_toArray, List.set_cons_zero, List.set_cons_succ]
      refine wpAnyH_take (i := 4) (oi := { dst := some 32, op := Op.move (Operand.tmp 2), type := 22, pos := "law.go:64", after := #[], guard := none }) (v := ?_) rfl (by kernel_rfl) (by kernel_rfl) (by kernel_rfl) (fun _ _ _ h => h) (Or.inl ⟨by rfl, ?_⟩) (by assumption) ?_
      rotate_left 1
      · intro w hSw
        try dsimp only at hSw
        go_simp
        try with_reducible rfl
      try simp only [Act.put, List.setIfInBounds_toArray, List.set_cons_zero, List.set_cons_succ]
      refine wpAnyH_take (i := 5) (oi := { dst := some 33, op := Op.call { callee := Callee.builtin Builtin.len, args := #[Operand.tmp 32], argTypes := #[22] }, type := 3, pos := "law.go:64", after := #[{ on := 4, ground := Ground.data }], guard := none }) (v := ?_) rfl (by kernel_rfl) (by kernel_rfl) (by kernel_rfl) (fun _ _ _ h => h) (Or.inl ⟨by rfl, ?_⟩) (by assumption) ?_
      rotate_left 1
      · intro w hSw
        try dsimp only at hSw
        go_simp
        try with_reducible rfl
      try simp only [Act.put, List.setIfInBounds_toArray, List.set_cons_zero, List.set_cons_succ]
      refine wpAnyH_take (i := 6) (oi := { dst := some 34, op := Op.call { callee := Callee.builtin Builtin.min, args := #[Operand.tmp 33, Operand.const (Value.int IntKind.i64 20)], argTypes := #[3, 3] }, type := 3, pos := "law.go:64", after := #[{ on := 5, ground := Ground.data }], guard := none }) (v := ?_) rfl (by kernel_rfl) (by kernel_rfl) (by kernel_rfl) (fun _ _ _ h => h) (Or.inl ⟨by rfl, ?_⟩) (by assumption) ?_
      rotate_left 1
      · intro w hSw
        try dsimp only at hSw
        go_simp
        try with_reducible rfl
      try simp only [Act.put, List.setIfInBounds_toArray, List.set_cons_zero, List.set_cons_succ]
      refine wpAnyH_take (i := 7) (oi := { dst := some 35, op := Op.slice 22 (Operand.tmp 28) none (some (Operand.tmp 31)) (some (Operand.tmp 34)), type := 22, pos := "law.go:64", after := #[{ on := 0, ground := Ground.data }, { on := 3, ground := Ground.data }, { on := 6, ground := Ground.data }], guard := none }) (v := ?_) rfl (by kernel_rfl) (by kernel_rfl) (by kernel_rfl) (fun _ _ _ h => h) (Or.inl ⟨by rfl, ?_⟩) (by assumption) ?_
      rotate_left 1
      · intro w hSw
        try dsimp only at hSw
        go_simp
        try with_reducible rfl
      try simp only [Act.put, List.setIfInBounds_toArray, List.set_cons_zero, List.set_cons_succ]
      refine wpAnyH_take (i := 8) (oi := { dst := some 36, op := Op.move (Operand.tmp 1), type := 22, pos := "law.go:64", after := #[], guard := none }) (v := ?_) rfl (by kernel_rfl) (by kernel_rfl) (by kernel_rfl) (fun _ _ _ h => h) (Or.inl ⟨by rfl, ?_⟩) (by assumption) ?_
      rotate_left 1
      · intro w hSw
        try dsimp only at hSw
        go_simp
        try with_reducible rfl
      try simp only [Act.put, List.setIfInBounds_toArray, List.set_cons_zero, List.set_cons_succ]
      refine wpAnyH_take (i := 9) (oi := { dst := some 37, op := Op.move (Operand.tmp 1), type := 22, pos := "law.go:64", after := #[], guard := none }) (v := ?_) rfl (by kernel_rfl) (by kernel_rfl) (by kernel_rfl) (fun _ _ _ h => h) (Or.inl ⟨by rfl, ?_⟩) (by assumption) ?_
      rotate_left 1
      · intro w hSw
        try dsimp only at hSw
        go_simp
        try with_reducible rfl
      try simp only [Act.put, List.setIfInBounds_toArray, List.set_cons_zero, List.set_cons_succ]
      refine wpAnyH_take (i := 10) (oi := { dst := some 38, op := Op.call { callee := Callee.builtin Builtin.len, args := #[Operand.tmp 37], argTypes := #[22] }, type := 3, pos := "law.go:64", after := #[{ on := 9, ground := Ground.data }], guard := none }) (v := ?_) rfl (by kernel_rfl) (by kernel_rfl) (by kernel_rfl) (fun _ _ _ h => h) (Or.inl ⟨by rfl, ?_⟩) (by assumption) ?_
      rotate_left 1
      · intro w hSw
        try dsimp only at hSw
        go_simp
        try with_reducible rfl
      try simp only [Act.put, List.setIfInBounds_toArray, List.set_cons_zero, List.set_cons_succ]
      refine wpAnyH_take (i := 11) (oi := { dst := some 39, op := Op.call { callee := Callee.builtin Builtin.min, args := #[Operand.tmp 38, Operand.const (Value.int IntKind.i64 20)], argTypes := #[3, 3] }, type := 3, pos := "law.go:64", after := #[{ on := 10, ground := Ground.data }], guard := none }) (v := ?_) rfl (by kernel_rfl) (by kernel_rfl) (by kernel_rfl) (fun _ _ _ h => h) (Or.inl ⟨by rfl, ?_⟩) (by assumption) ?_
      rotate_left 1
      · intro w hSw
        try dsimp only at hSw
        go_simp
        try with_reducible rfl
      try simp only [Act.put, List.setIfInBounds_toArray, List.set_cons_zero, List.set_cons_succ]
      refine wpAnyH_take (i := 12) (oi := { dst := some 40, op := Op.slice 22 (Operand.tmp 36) none (some (Operand.tmp 39)) none, type := 22, pos := "law.go:64", after := #[{ on := 8, ground := Ground.data }, { on := 11, ground := Ground.data }], guard := none }) (v := ?_) rfl (by kernel_rfl) (by kernel_rfl) (by kernel_rfl) (fun _ _ _ h => h) (Or.inl ⟨by rfl, ?_⟩) (by assumption) ?_
      rotate_left 1
      · intro w hSw
        try dsimp only at hSw
        go_simp
        try with_reducible rfl
      try simp only [Act.put, List.setIfInBounds_toArray, List.set_cons_zero, List.set_cons_succ]
      refine wpAnyH_take (i := 15) (oi := { dst := some 43, op := Op.move (Operand.const (Value.int IntKind.i64 0)), type := 3, pos := "law.go:64", after := #[], guard := none }) (v := ?_) rfl (by kernel_rfl) (by kernel_rfl) (by kernel_rfl) (fun _ _ _ h => h) (Or.inl ⟨by rfl, ?_⟩) (by assumption) ?_
      rotate_left 1
      · intro w hSw
        try dsimp only at hSw
        go_simp
        try with_reducible rfl
      try simp only [Act.put, List.setIfInBounds_toArray, List.set_cons_zero, List.set_cons_succ]
      refine wpAnyH_ready (rs := [13]) (by kernel_rfl) (by simp) ?_
      refine AllReadyH.cons (o := { dst := some 41, op := Op.call { callee := Callee.builtin Builtin.append, args := #[Operand.tmp 35, Operand.tmp 40], argTypes := #[22, 22] }, type := 22, pos := "law.go:64", after := #[{ on := 7, ground := Ground.data }, { on := 12, ground := Ground.data }], guard := none }) rfl (fun K hK => ?_) ?_
      rotate_left 1
      · exact AllReadyH.nil
      refine step_wanted rfl (wp_append_old (.tmp 35) (.tmp 40) rfl tyMa h5 HFA.out HFB.out hne hla hlb rfl rfl (by omega) ?_)
      intro g off cap w' h6
      obtain ⟨n, hn⟩ : ∃ n, na + nb = n := ⟨_, rfl⟩
      rw [hn] at h6
      rw [hn]
      have HN := Lib.hid hn
      have HLA := Lib.hid hla
      have HLB := Lib.hid hlb
      clear hn hla hlb hne
      refine hK.out _ _ trivial (fun hHeld => ?_)
      clear hK K
      try simp only [Act.put, List.setIfInBounds_toArray, List.set_cons_zero, List.set_cons_succ]
      refine wpAnyH_take (i := 14) (oi := { dst := some 42, op := Op.call { callee := Callee.builtin Builtin.len, args := #[Operand.tmp 41], argTypes := #[22] }, type := 3, pos := "law.go:64", after := #[{ on := 13, ground := Ground.data }], guard := none }) (v := ?_) rfl (by kernel_rfl) (by kernel_rfl) (by kernel_rfl) (fun _ _ _ h => h) (Or.inl ⟨by rfl, ?_⟩) (by assumption) ?_
      rotate_left 1
      · intro w hSw
        try dsimp only at hSw
        go_simp
        try with_reducible rfl
      try simp only [Act.put, List.setIfInBounds_toArray, List.set_cons_zero, List.set_cons_succ]
      refine wpAnyH_done (by kernel_rfl) ?_ _
      go_wp2
      go_meet
      refine ⟨LAt 29 4 maC (.slice (some ⟨g, off, none⟩) n cap) (la ++ lb), n, cap, some ⟨g, off, none⟩, by have := HN.out; omega, rfl, rfl, rfl, h6, Lib.hid fun h0 => ⟨g, off, rfl, fun W X hW => ⟨la ++ lb, by rw [List.length_append, HLA.out, HLB.out]; exact HN.out, fun i x hx => ⟨?_, fun r u hr => ?_⟩⟩⟩⟩
      · rcases List.mem_append.1 (List.mem_of_getElem? hx) with h | h
        · exact HOA.out x h
        · exact HOB.out x h
      · rcases hW.l_cells tyMa.len with ⟨h0, _⟩ | ⟨g', off', cap', hv, _, _, hcell⟩
        · rw [h0] at hx; simp at hx
        simp only [Value.slice.injEq, Option.some.injEq, Addr.mk.injEq] at hv
        obtain ⟨⟨rfl, rfl, _⟩, _, rfl⟩ := hv
        exact hcell i x hx r u hr
  case rest =>
    obtain ⟨K, n, cap, b, hn40, rfl, rfl, rfl, h5, HRD⟩ := hcut
    have hxl := Ok.short HOK.out
    have hLl := HR.out.len
    have hL : L.length ≤ 100000 := by omega
    have hl : x.l.length ≤ 100000 := by omega
    obtain ⟨mo, hmo⟩ : ∃ mo, mostOf a0 = mo := ⟨_, rfl⟩
    rw [hmo] at h5
    clear h4 hxl hLl hna hnb ha1 hb1 L3 M3 hmo
    go_wp2
    go_loopw [43] (fun i wr => ∃ k : Nat, k ≤ n ∧ i = .int .i64 k ∧ St w wr (K * (XAt m x * (MRef r mo L * Old w)))) (fun i _ => n - (intOf i).toNat)
    case atStart => exact ⟨0, by omega, rfl, h5⟩
    case round =>
      clear h5
      obtain ⟨k, hk, rfl, h6⟩ := hrel
      by_cases hlt : k < n
      · obtain ⟨g, off, rfl, hrd⟩ := HRD.out (by omega)
        obtain ⟨la, hla, hA⟩ := hrd wr (XAt m x * MRef r mo L) (h6.eq (by ac_rfl))
        obtain ⟨⟨yd, ys, yt, yi⟩, hy⟩ : ∃ y, la[k]? = some y := ⟨_, List.getElem?_eq_getElem (by omega)⟩
        obtain ⟨yok, hcy⟩ := hA k _ hy
        have d0 : wr.cell? ⟨g, off + k * 4, none⟩ = some (.int .i64 yd) := hcy 0 _ rfl
        have d1 : wr.cell? ⟨g, off + k * 4 + 1, none⟩ = some (.int .i64 ys) := hcy 1 _ rfl
        have d2 : wr.cell? ⟨g, off + k * 4 + 2, none⟩ = some (.int .i64 yt) := hcy 2 _ rfl
        have d3 : wr.cell? ⟨g, off + k * 4 + 3, none⟩ = some (.int .i64 yi) := hcy 3 _ rfl
        have hk1 : okL (ys, yt) := ⟨yok.1, yok.2.1⟩
        have hk2 : okL (ys, 127) := ⟨yok.1, show (Lit.int .i64 127).wf = true by decide⟩
        have h7 := h6.alloc (.cells #[.int .i64 yd, .int .i64 ys, .int .i64 yt, .int .i64 yi] 29)
        clear hrd hla hA hy yok hcy h6 HRD
        obtain ⟨rl, hrl⟩ : ∃ rl, rlinks L yi = rl := ⟨_, rfl⟩
        have hrl2 : rl.length ≤ L.length := by rw [← hrl]; exact List.length_filter_le _ _
        have hlk : linksOf x.l yi = rl.map (·.1) := by
          rw [← hrl]
          exact HR.out.links yi ⟨linksOf_strict HOK.out.nd yi, fun k => linksOf_mem⟩
        have hr1 := HR.out.route (ys, yt)
        have hr2 := HR.out.route (ys, 127)
        have hn1 := route_len' x (ys, yt)
        have hn2 := route_len' x (ys, 127)
        obtain ⟨i1, hi1⟩ : ∃ i1, x.route (ys, yt) = i1 := ⟨_, rfl⟩
        obtain ⟨i2, hi2⟩ : ∃ i2, x.route (ys, 127) = i2 := ⟨_, rfl⟩
        rw [hi1] at hr1 hn1
        rw [hi2] at hr2 hn2
        have hA1 := fun (w5 : World) (R : HP) (h : St w w5 (XAt m x * R)) => (x_links m x yi w w5 R h hl)
        have hA2 := fun (w5 : World) (R : HP) (h : St w w5 (MRef r mo L * R)) => (mr_links r mo L hL yi w w5 R h)
        have hB1 := fun (w5 : World) (R : HP) (h : St w w5 (XAt m x * R)) => (x_route m x (ys, yt) hk1 w w5 R h hl)
        have hB2 := fun (w5 : World) (R : HP) (h : St w w5 (MRef r mo L * R)) => (mr_route r mo L hL ys yt w w5 R h)
        have hC1 := fun (w5 : World) (R : HP) (h : St w w5 (XAt m x * R)) => (x_route m x (ys, 127) hk2 w w5 R h hl)
        have hC2 := fun (w5 : World) (R : HP) (h : St w w5 (MRef r mo L * R)) => (mr_route r mo L hL ys 127 w w5 R h)
        have hE1 := fun (v1 v2 : Value) (w5 : World) (R : HP) (h : St w w5 (LAt 3 1 intL v1 i1 * (LAt 3 1 intL v2 i1 * R))) => (eq_same v1 v2 i1 (by omega) w w5 R h)
        have hE2 := fun (v1 v2 : Value) (w5 : World) (R : HP) (h : St w w5 (LAt 3 1 intL v1 i2 * (LAt 3 1 intL v2 i2 * R))) => (eq_same v1 v2 i2 (by omega) w w5 R h)
        rw [hlk] at hA1
        rw [hrl] at hA2
        rw [hi1] at hB1
        rw [hr1] at hB2
        rw [hi2] at hC1
        rw [hr2] at hC2
        have A1 := Lib.hid hA1
        have A2 := Lib.hid hA2
        have B1 := Lib.hid hB1
        have B2 := Lib.hid hB2
        have C1 := Lib.hid hC1
        have C2 := Lib.hid hC2
        have E1 := Lib.hid hE1
        have E2 := Lib.hid hE2
        clear hA1 hA2 hB1 hB2 hC1 hC2 hE1 hE2 hr1 hr2 hi1 hi2 hn1 hn2 hlk hrl hk1 hk2
        go_upto_region 7 with fail
        generalize wr.alloc _ = wa at *
        generalize wr.heap.size = ga at *
        have e0 := h7.cell
        clear d0 d1 d2 d3
        go_region_held3 (fun w' => w'.cell? ⟨ga, 3, none⟩ = some (.int .i64 yi)) (first | exact e0 3 | exact e1 3 | exact e2 3) (first | (go_at_call 9; refine (A1.out _ _ h7.drew.f3).mono ?_; rintro e w5 ⟨v1, rfl, h8⟩; have e1 := h8.f3.cell) | (go_at_call 10; refine (A2.out _ _ h8.f5).mono ?_; rintro e w6 ⟨v2, rfl, h9⟩; have e2 := h9.f5.cell))
        obtain ⟨n5, hn5⟩ : ∃ n, rl.length = n := ⟨_, rfl⟩
        have s1 := h9.f3.l_shape
        have s2 := h9.l_shape
        rw [hn5] at hrl2
        have hn5l : n5 ≤ 100000 := by omega
        rw [List.length_map, hn5] at s1
        rw [hn5] at s2
        obtain ⟨a5, c5, rfl, _, _⟩ := s1
        obtain ⟨a6, c6, rfl, _, _⟩ := s2
        have HN5 := Lib.hid hn5
        have h10 := h9.eq (show _ = blk ga _ * (XAt m x * (MRef r mo L * (LAt 41 3 enC (.slice a6 n5 c6) rl * (LAt 38 2 lkC (.slice a5 n5 c5) (rl.map (·.1)) * (K * Old w))))) by ac_rfl)
        have q5 : ((n5 : Int) != (n5 : Int)) = false := by simp
        clear h7 h8 h9 e0 e1 e2 A1 A2 hn5
        go_upto_region 8 with fail
        have f0 := h10.cell
        go_region_held3 (fun w' => w'.cell? ⟨ga, 1, none⟩ = some (.int .i64 ys) ∧ w'.cell? ⟨ga, 2, none⟩ = some (.int .i64 yt)) (first | exact ⟨f0 1, f0 2⟩ | exact ⟨f1 1, f1 2⟩ | exact ⟨f2 1, f2 2⟩ | exact ⟨f3 1, f3 2⟩ | exact ⟨f4 1, f4 2⟩ | exact ⟨f5 1, f5 2⟩ | exact ⟨f6 1, f6 2⟩) (first
          | (go_at_call 12; refine (B1.out _ _ h10.drew.f2).mono ?_; rintro e w11 ⟨v1, rfl, h11⟩; clear h10; have f1 := h11.f3.cell)
          | (go_at_call 13; refine (B2.out _ _ h11.f4).mono ?_; rintro e w12 ⟨v2, rfl, h12⟩; clear h11; have f2 := h12.f5.cell)
          | (go_at_call 11; refine (E1.out _ _ _ _ h12.f3).mono ?_; rintro e w13 ⟨rfl, h13x⟩; clear h12; have h13 := h13x.drop.drop; clear h13x; have f3 := h13.f3.cell)
          | (go_at_call 12; refine (C1.out _ _ h13.f2).mono ?_; rintro e w14 ⟨v3, rfl, h14⟩; clear h13; have f4 := h14.f4.cell)
          | (go_at_call 13; refine (C2.out _ _ h14.f3).mono ?_; rintro e w15 ⟨v4, rfl, h15⟩; clear h14; have f5 := h15.f5.cell)
          | (go_at_call 11; refine (E2.out _ _ _ _ h15.f3).mono ?_; rintro e w16 ⟨rfl, h16x⟩; clear h15; have h16 := h16x.drop.drop; clear h16x; have f6 := h16.f3.cell))
        have h17 := h16.eq (show _ = LAt 38 2 lkC (.slice a5 n5 c5) (rl.map (·.1)) * (LAt 41 3 enC (.slice a6 n5 c6) rl * (K * (XAt m x * (MRef r mo L * (blk ga _ * Old w))))) by ac_rfl)
        have h18 := h17
        clear h16 f0 f1 f2 f3 f4 f5 f6 B1 B2 C1 C2 E1 E2
        go_wp2
        go_loopw [92] (fun i wr => ∃ j : Nat, j ≤ n5 ∧ i = .int .i64 j ∧ St w wr (LAt 38 2 lkC (.slice a5 n5 c5) (rl.map (·.1)) * (LAt 41 3 enC (.slice a6 n5 c6) rl * (K * (XAt m x * (MRef r mo L * (blk ga (.cells #[.int .i64 yd, .int .i64 ys, .int .i64 yt, .int .i64 yi] 29 (0, 0)) * Old w))))))) (fun i _ => n5 - (intOf i).toNat)
        case atStart => exact ⟨0, by omega, rfl, h18⟩
        case round =>
          clear h17 h18
          obtain ⟨j, hj, rfl, h19⟩ := hrel
          by_cases hlj : j < n5
          · obtain ⟨⟨⟨z1, z2⟩, zu⟩, hz⟩ : ∃ z, rl[j]? = some z := ⟨_, List.getElem?_eq_getElem (by rw [HN5.out]; exact hlj)⟩
            have hz2 : (rl.map (·.1))[j]? = some (z1, z2) := by rw [List.getElem?_map, hz]; rfl
            rcases h19.l_cells tyLk.len with ⟨h0, _⟩ | ⟨g1, o1, p1, hv1, _, _, hc1⟩
            · rw [h0] at hz2; simp at hz2
            rcases h19.f2.l_cells tyEn.len with ⟨h0, _⟩ | ⟨g2, o2, p2, hv2, _, _, hc2⟩
            · rw [h0] at hz; simp at hz
            simp only [Value.slice.injEq] at hv1 hv2
            obtain ⟨rfl, hq1, rfl⟩ := hv1
            obtain ⟨rfl, hq2, rfl⟩ := hv2
            clear hq1 hq2
            have d0 : wr.cell? ⟨g1, o1 + j * 2, none⟩ = some (.int .i64 z1) := hc1 j _ hz2 0 _ rfl
            have d1 : wr.cell? ⟨g1, o1 + j * 2 + 1, none⟩ = some (.int .i64 z2) := hc1 j _ hz2 1 _ rfl
            have e0 : wr.cell? ⟨g2, o2 + j * 3, none⟩ = some (.int .i64 z1) := hc2 j _ hz 0 _ rfl
            have e1 : wr.cell? ⟨g2, o2 + j * 3 + 1, none⟩ = some (.int .i64 z2) := hc2 j _ hz 1 _ rfl
            have q1 : (z1 != z1) = false := by simp
            have q2 : (z2 != z2) = false := by simp
            have hji : (j : Int) < (n5 : Int) := by omega
            have H19 := Lib.hid h19
            clear hc1 hc2 hz hz2 h19
            go_upto_region 13 with fail
            go_quiet (fail)
            go_wp2
            go_roundw
            case rel => exact ⟨j + 1, by omega, by go_num, H19.out.drewN _⟩
            case measure => simp [intOf]; omega
          · go_wp2
            go_roundw
            case rel => exact ⟨k + 1, by omega, by go_num, (h19.drop.drop).eq (show _ = blk ga _ * (K * (XAt m x * (MRef r mo L * Old w))) by ac_rfl) |>.drop⟩
            case measure => simp [intOf]; omega
      · go_wp2
        go_ret
        exact ⟨rfl, h6.drop.drop.drop.old0⟩
end Go.Proofs.Ytkcclijckpbobaa
