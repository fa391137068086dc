/- A terminal: its claim on the heap; begin, start. A terminal: start, Stop of its clock. -/
import Derived.Test.YtnnahljdhdippaaGreatDoorB24
import Derived.Test.YtnnahljdhdippaaGreatDoorB22
namespace Go.Proofs.YtnnahljdhdippaaGreatDoor
open Go.RowKit

abbrev tolC (p : Int × ByteArray) : List Value := [.int .i64 p.1, .string p.2]
abbrev TTt : TypeId := 107
abbrev TTold : TypeId := 88
theorem tyTold : ETy Tryz.prog 52 TTold 2 24 tolC :=
  ⟨Tryz.underlying52, ⟨.agg #[.int .i64 0, .string ⟨#[]⟩], by kernel_rfl, rfl⟩, fun _ => rfl, fun b u hu => by simp [tolC] at hu; rcases hu with rfl | rfl <;> rfl, by decide, by decide⟩
abbrev Tt.cells (x : Tt) (e u c p : Nat) (sv tv : Value) : Array Value := #[.int .i64 x.cf.k, .int .i64 x.cf.n200, .int .i64 x.cf.n202, .int .i64 x.cf.t200, .int .i64 x.cf.t202, .int .i64 x.cf.t203, ptr e, ptr u, ptrC c, ptrD p, .int .i64 x.now, sv, tv]
/-- a terminal -/
def TtAt (t e u c p : Nat) (x : Tt) : HP := hex fun sv : Value => hex fun tv : Value =>
  blk t (.cells (x.cells e u c p sv tv) TTt (0, 0)) * (EnAt e x.e * (UsAt u x.u * (CAt c x.c * (DeAt p x.d * (LAt 9 1 encS sv x.sent * LAt TTold 2 tolC tv x.told)))))
section
variable {w0 w : World} {R : HP} {t e u c p : Nat} {x : Tt}
theorem St.tt_open (h : St w0 w (TtAt t e u c p x * R)) : ∃ sv tv, St w0 w (blk t (.cells (x.cells e u c p sv tv) TTt (0, 0)) * (EnAt e x.e * (UsAt u x.u * (CAt c x.c * (DeAt p x.d * (LAt 9 1 encS sv x.sent * (LAt TTold 2 tolC tv x.told * R))))))) := by
  obtain ⟨sv, h⟩ := h.ex
  obtain ⟨tv, h⟩ := h.ex
  exact ⟨sv, tv, h.eq (by simp only [star_assoc])⟩
theorem St.tt_shut {sv tv : Value} (h : St w0 w (blk t (.cells (x.cells e u c p sv tv) TTt (0, 0)) * (EnAt e x.e * (UsAt u x.u * (CAt c x.c * (DeAt p x.d * (LAt 9 1 encS sv x.sent * (LAt TTold 2 tolC tv x.told * R)))))))) : St w0 w (TtAt t e u c p x * R) :=
  St.mk_ex sv (St.mk_ex tv (h.eq (by simp only [star_assoc])))
/-- .. between two calls: what was sent and told is somebody else's -/
def TtOff (t : Nat) (x : Tt) : HP := hex fun e : Nat => hex fun u : Nat => hex fun c : Nat => hex fun p : Nat => hex fun sv : Value => hex fun tv : Value =>
  blk t (.cells (x.cells e u c p sv tv) TTt (0, 0)) * (EnAt e x.e * (UsAt u x.u * (CAt c x.c * DeAt p x.d)))
theorem St.off_open (h : St w0 w (TtOff t x * R)) : ∃ e u c p sv tv, St w0 w (blk t (.cells (x.cells e u c p sv tv) TTt (0, 0)) * (EnAt e x.e * (UsAt u x.u * (CAt c x.c * (DeAt p x.d * R))))) := by
  obtain ⟨e, h⟩ := h.ex
  obtain ⟨u, h⟩ := h.ex
  obtain ⟨c, h⟩ := h.ex
  obtain ⟨p, h⟩ := h.ex
  obtain ⟨sv, h⟩ := h.ex
  obtain ⟨tv, h⟩ := h.ex
  exact ⟨e, u, c, p, sv, tv, h.eq (by simp only [star_assoc])⟩
theorem St.off_shut {e u c p : Nat} {sv tv : Value} (h : St w0 w (blk t (.cells (x.cells e u c p sv tv) TTt (0, 0)) * (EnAt e x.e * (UsAt u x.u * (CAt c x.c * (DeAt p x.d * R)))))) : St w0 w (TtOff t x * R) :=
  St.mk_ex e (St.mk_ex u (St.mk_ex c (St.mk_ex p (St.mk_ex sv (St.mk_ex tv (h.eq (by simp only [star_assoc])))))))
end
theorem t_begin_nil (now : Int) (w : World) : Calls Tryz.prog 41 #[.pointer none, .int .i64 now] w fun e w' => e = .returned (.int .i64 1) ∧ w = w' := by
  go_enter Tryz.func41, Tryz.ntmps41
  go_wp2
  go_ret
  exact ⟨rfl, rfl⟩
theorem t_begin_bad (t : Nat) (x : Tt) (now : Int) (hb : badNow now = true) (w0 w : World) (R : HP) (h : St w0 w (TtOff t x * R)) :
    Calls Tryz.prog 41 #[ptr t, .int .i64 now] w fun e w' => e = .returned (.int .i64 2) ∧ St w0 w' (TtOff t x.hush * R) := by
  have h' : St w0 w (TtOff t x.hush * R) := h
  unfold badNow at hb
  by_cases a : now < 0
  · have qa : decide (now < 0) = true := decide_eq_true a
    clear a hb h
    go_enter Tryz.func41, Tryz.ntmps41
    go_wp2
    go_ret
    exact ⟨rfl, h'⟩
  have qa : decide (now < 0) = false := decide_eq_false a
  have b : 9007199254740992 < now := (of_decide_eq_true hb).resolve_left a
  have qb : decide (9007199254740992 < now) = true := decide_eq_true b
  clear a b hb h
  go_enter Tryz.func41, Tryz.ntmps41
  go_wp2
  go_ret
  exact ⟨rfl, h'⟩
set_option maxRecDepth 100000 in
theorem t_begin (t : Nat) (x : Tt) (now : Int) (hb : badNow now = false) (w0 w : World) (R : HP) (h : St w0 w (TtOff t x * R)) :
    Calls Tryz.prog 41 #[ptr t, .int .i64 now] w fun e w' => ∃ e0 u c p, e = .returned (.int .i64 0) ∧ St w0 w' (TtAt t e0 u c p (x.begin now) * R) := by
  unfold badNow at hb
  have hb2 := of_decide_eq_false hb
  have qa : decide (now < 0) = false := decide_eq_false (fun a => hb2 (.inl a))
  have qb : decide (9007199254740992 < now) = false := decide_eq_false (fun a => hb2 (.inr a))
  clear hb hb2
  obtain ⟨e, u, c, p, sv, tv, h1⟩ := h.off_open
  have cc := h1.cell
  have ff := h1.free
  have h2 := ((h1.set 10 (.int .i64 now)).set 11 (.slice none 0 0)).set 12 (.slice none 0 0)
  clear h
  go_enter Tryz.func41, Tryz.ntmps41
  go_upto_region 6 with fail
  generalize ((w.setCell _ _).setCell _ _).setCell _ _ = w2 at *
  have h3 := (h2.l_nil TTold 2 tolC).l_nil 9 1 encS
  have h4 : St w0 w2 (TtAt t e u c p (x.begin now) * R) := St.tt_shut (x := x.begin now) (e := e) (u := u) (c := c) (p := p) (sv := .slice none 0 0) (tv := .slice none 0 0) (h3.eq (show _ = blk t _ * (EnAt e x.e * (UsAt u x.u * (CAt c x.c * (DeAt p x.d * (LAt 9 1 encS (.slice none 0 0) [] * (LAt TTold 2 tolC (.slice none 0 0) [] * R)))))) by ac_rfl))
  clear h1 h2 h3 cc ff
  go_wp2
  go_ret
  exact ⟨e, u, c, p, rfl, h4⟩
end Go.Proofs.YtnnahljdhdippaaGreatDoor

namespace Go.Proofs.YtnnahljdhdippaaGreatDoor
open Go.RowKit

set_option maxRecDepth 100000 in
set_option maxHeartbeats 800000 in
theorem t_start (t e u c p : Nat) (x : Tt) (tm : Int) (hk : okK (0, tm)) (w0 w : World) (R : HP) (h : St w0 w (TtAt t e u c p x * R)) :
    Calls Tryz.prog 89 #[ptr t, .int .i64 tm] w fun r w' => r = .returned (.tuple #[]) ∧ St w0 w' (TtAt t e u c p (x.start tm) * R) := by
  obtain ⟨sv, tv, h1⟩ := h.tt_open
  have cc := h1.cell
  have k1 : w.drew.cell? ⟨t, 8, none⟩ = some (ptrC c) := (h1.drew.cell 8).trans rfl
  have k2 : w.drew.cell? ⟨t, 10, none⟩ = some (.int .i64 x.now) := (h1.drew.cell 10).trans rfl
  have hc := fun per => c_start c x.c (0, tm) hk x.now per w0 w.drew _ h1.f4.drew
  clear h h1
  by_cases a : tm = 200
  · have hp : (if tm = 200 then x.cf.t200 else if tm = 202 then x.cf.t202 else x.cf.t203) = x.cf.t200 := if_pos a
    have hc := hc x.cf.t200
    have HP := Lib.hid hp
    clear hp
    subst a
    go_enter Tryz.func89, Tryz.ntmps89
    go_upto_region 6 with fail
    refine wp_region_held_drew (S := fun wx => wx.cell? ⟨t, 8, none⟩ = some (ptrC c) ∧ wx.cell? ⟨t, 10, none⟩ = some (.int .i64 x.now)) (by kernel_rfl) ⟨k1, k2⟩ (fun hHeld => ?_)
    clear k1 k2 cc
    generalize w.drew = wd at *
    refine wpAnyH_take (i := 0) (oi := { dst := some 25, op := Op.move (Operand.tmp 0), type := 30, pos := "terminal.go:90", after := #[], guard := none }) (v := ?_) rfl (by kernel_rfl) (by kernel_rfl) (by kernel_rfl) (fun _ _ _ h => h) (Or.inl ⟨by rfl, ?_⟩) (by assumption) ?_
    rotate_left 1
    · intro w hSw
      try dsimp only at hSw
      go_simp
      try with_reducible rfl
    try simp only [Act.put, List.setIfInBounds_toArray, List.set_cons_zero, List.set_cons_succ]
    refine wpAnyH_take (i := 1) (oi := { dst := some 26, op := Op.nilCheck (Operand.tmp 25), type := 0, pos := "terminal.go:90", after := #[{ on := 0, ground := Ground.data }], guard := none }) (v := ?_) rfl (by kernel_rfl) (by kernel_rfl) (by kernel_rfl) (fun _ _ _ h => h) (Or.inl ⟨by rfl, ?_⟩) (by assumption) ?_
    rotate_left 1
    · intro w hSw
      try dsimp only at hSw
      go_simp
      try with_reducible rfl
    try simp only [Act.put, List.setIfInBounds_toArray, List.set_cons_zero, List.set_cons_succ]
    refine wpAnyH_take (i := 2) (oi := { dst := some 27, op := Op.fieldAddr 107 (Operand.tmp 26) 3, type := 0, pos := "terminal.go:90", after := #[{ on := 1, ground := Ground.data }], guard := none }) (v := ?_) rfl (by kernel_rfl) (by kernel_rfl) (by kernel_rfl) (fun _ _ _ h => h) (Or.inl ⟨by rfl, ?_⟩) (by assumption) ?_
    rotate_left 1
    · intro w hSw
      try dsimp only at hSw
      go_simp
      try with_reducible rfl
    try simp only [Act.put, List.setIfInBounds_toArray, List.set_cons_zero, List.set_cons_succ]
    refine wpAnyH_take (i := 3) (oi := { dst := some 28, op := Op.load 104 (Operand.tmp 27), type := 104, pos := "terminal.go:90", after := #[{ on := 2, ground := Ground.data }], guard := none }) (v := ?_) rfl (by kernel_rfl) (by kernel_rfl) (by kernel_rfl) (fun _ _ _ h => h) (Or.inl ⟨by rfl, ?_⟩) (by assumption) ?_
    rotate_left 1
    · intro w hSw
      try dsimp only at hSw
      go_simp
      try with_reducible rfl
    try simp only [Act.put, List.setIfInBounds_toArray, List.set_cons_zero, List.set_cons_succ]
    refine wpAnyH_take (i := 4) (oi := { dst := some 29, op := Op.move (Operand.tmp 1), type := 3, pos := "terminal.go:90", after := #[], guard := none }) (v := ?_) rfl (by kernel_rfl) (by kernel_rfl) (by kernel_rfl) (fun _ _ _ h => h) (Or.inl ⟨by rfl, ?_⟩) (by assumption) ?_
    rotate_left 1
    · intro w hSw
      try dsimp only at hSw
      go_simp
      try with_reducible rfl
    try simp only [Act.put, List.setIfInBounds_toArray, List.set_cons_zero, List.set_cons_succ]
    refine wpAnyH_take (i := 5) (oi := { dst := some 30, op := Op.build 186 #[(1, Operand.tmp 29)], type := 186, pos := "terminal.go:90", after := #[{ on := 4, ground := Ground.data }], guard := none }) (v := ?_) rfl (by kernel_rfl) (by kernel_rfl) (by kernel_rfl) (fun _ _ _ h => h) (Or.inl ⟨by rfl, ?_⟩) (by assumption) ?_
    rotate_left 1
    · intro w hSw
      try dsimp only at hSw
      go_simp
      try with_reducible rfl
    try simp only [Act.put, List.setIfInBounds_toArray, List.set_cons_zero, List.set_cons_succ]
    refine wpAnyH_take (i := 6) (oi := { dst := some 31, op := Op.move (Operand.tmp 0), type := 30, pos := "terminal.go:90", after := #[], guard := none }) (v := ?_) rfl (by kernel_rfl) (by kernel_rfl) (by kernel_rfl) (fun _ _ _ h => h) (Or.inl ⟨by rfl, ?_⟩) (by assumption) ?_
    rotate_left 1
    · intro w hSw
      try dsimp only at hSw
      go_simp
      try with_reducible rfl
    try simp only [Act.put, List.setIfInBounds_toArray, List.set_cons_zero, List.set_cons_succ]
    refine wpAnyH_take (i := 7) (oi := { dst := some 32, op := Op.nilCheck (Operand.tmp 31), type := 0, pos := "terminal.go:90", after := #[{ on := 6, ground := Ground.data }], guard := none }) (v := ?_) rfl (by kernel_rfl) (by kernel_rfl) (by kernel_rfl) (fun _ _ _ h => h) (Or.inl ⟨by rfl, ?_⟩) (by assumption) ?_
    rotate_left 1
    · intro w hSw
      try dsimp only at hSw
      go_simp
      try with_reducible rfl
    try simp only [Act.put, List.setIfInBounds_toArray, List.set_cons_zero, List.set_cons_succ]
    refine wpAnyH_take (i := 8) (oi := { dst := some 33, op := Op.fieldAddr 107 (Operand.tmp 32) 5, type := 0, pos := "terminal.go:90", after := #[{ on := 7, ground := Ground.data }], guard := none }) (v := ?_) rfl (by kernel_rfl) (by kernel_rfl) (by kernel_rfl) (fun _ _ _ h => h) (Or.inl ⟨by rfl, ?_⟩) (by assumption) ?_
    rotate_left 1
    · intro w hSw
      try dsimp only at hSw
      go_simp
      try with_reducible rfl
    try simp only [Act.put, List.setIfInBounds_toArray, List.set_cons_zero, List.set_cons_succ]
    refine wpAnyH_take (i := 9) (oi := { dst := some 34, op := Op.load 2 (Operand.tmp 33), type := 2, pos := "terminal.go:90", after := #[{ on := 8, ground := Ground.data }], guard := none }) (v := ?_) rfl (by kernel_rfl) (by kernel_rfl) (by kernel_rfl) (fun _ _ _ h => h) (Or.inl ⟨by rfl, ?_⟩) (by assumption) ?_
    rotate_left 1
    · intro w hSw
      try dsimp only at hSw
      go_simp
      try with_reducible rfl
    try simp only [Act.put, List.setIfInBounds_toArray, List.set_cons_zero, List.set_cons_succ]
    refine wpAnyH_take (i := 10) (oi := { dst := some 35, op := Op.move (Operand.tmp 4), type := 3, pos := "terminal.go:90", after := #[], guard := none }) (v := ?_) rfl (by kernel_rfl) (by kernel_rfl) (by kernel_rfl) (fun _ _ _ h => h) (Or.inl ⟨by rfl, ?_⟩) (by assumption) ?_
    rotate_left 1
    · intro w hSw
      try dsimp only at hSw
      go_simp
      try with_reducible rfl
    try simp only [Act.put, List.setIfInBounds_toArray, List.set_cons_zero, List.set_cons_succ]
    refine wpAnyH_ready (rs := [11]) (by kernel_rfl) (by simp) ?_
    refine AllReadyH.cons (o := { dst := some 36, op := Op.call { callee := Callee.value (Operand.func 164), args := #[Operand.tmp 28, Operand.tmp 30, Operand.tmp 34, Operand.tmp 35], argTypes := #[104, 186, 2, 3] }, type := 31, pos := "terminal.go:90", after := #[{ on := 3, ground := Ground.data }, { on := 5, ground := Ground.data }, { on := 9, ground := Ground.data }, { on := 10, ground := Ground.data }], guard := none }) rfl (fun K hK => ?_) ?_
    rotate_left 1
    · exact AllReadyH.nil
    go_simp
    go_at_call 164
    refine hc.mono ?_
    rintro r w5 ⟨rfl, h5⟩
    clear hc
    have h6 : St w0 w5 (TtAt t e u c p (x.start 200) * R) := by
      unfold Tt.start
      rw [HP.out]
      exact St.tt_shut (e := e) (u := u) (c := c) (p := p) (sv := sv) (tv := tv) (h5.eq (by ac_rfl))
    have c5 := (h5.eq (show _ = blk t _ * (CAt c _ * (EnAt e x.e * (UsAt u x.u * (DeAt p x.d * (LAt 9 1 encS sv x.sent * (LAt TTold 2 tolC tv x.told * R)))))) by ac_rfl)).cell
    go_simp
    refine hK.out _ _ ⟨(c5 8).trans rfl, (c5 10).trans rfl⟩ (fun hHeld => ?_)
    clear hK K
    try simp only [Act.put, List.setIfInBounds_toArray, List.set_cons_zero, List.set_cons_succ]
    refine wpAnyH_done (by kernel_rfl) ?_ _
    clear c5 h5
    go_wp2
    go_end0
    exact ⟨rfl, h6⟩
  · have qa : (tm == 200) = false := by simp [a]
    by_cases b : tm = 202
    · have hp : (if tm = 200 then x.cf.t200 else if tm = 202 then x.cf.t202 else x.cf.t203) = x.cf.t202 := by rw [if_neg a, if_pos b]
      have hc := hc x.cf.t202
      have HP := Lib.hid hp
      clear hp a qa
      subst b
      go_enter Tryz.func89, Tryz.ntmps89
      go_upto_region 6 with fail
      refine wp_region_held_drew (S := fun wx => wx.cell? ⟨t, 8, none⟩ = some (ptrC c) ∧ wx.cell? ⟨t, 10, none⟩ = some (.int .i64 x.now)) (by kernel_rfl) ⟨k1, k2⟩ (fun hHeld => ?_)
      clear k1 k2 cc
      generalize w.drew = wd at *
      refine wpAnyH_take (i := 0) (oi := { dst := some 25, op := Op.move (Operand.tmp 0), type := 30, pos := "terminal.go:90", after := #[], guard := none }) (v := ?_) rfl (by kernel_rfl) (by kernel_rfl) (by kernel_rfl) (fun _ _ _ h => h) (Or.inl ⟨by rfl, ?_⟩) (by assumption) ?_
      rotate_left 1
      · intro w hSw
        try dsimp only at hSw
        go_simp
        try with_reducible rfl
      try simp only [Act.put, List.setIfInBounds_toArray, List.set_cons_zero, List.set_cons_succ]
      refine wpAnyH_take (i := 1) (oi := { dst := some 26, op := Op.nilCheck (Operand.tmp 25), type := 0, pos := "terminal.go:90", after := #[{ on := 0, ground := Ground.data }], guard := none }) (v := ?_) rfl (by kernel_rfl) (by kernel_rfl) (by kernel_rfl) (fun _ _ _ h => h) (Or.inl ⟨by rfl, ?_⟩) (by assumption) ?_
      rotate_left 1
      · intro w hSw
        try dsimp only at hSw
        go_simp
        try with_reducible rfl
      try simp only [Act.put, List.setIfInBounds_toArray, List.set_cons_zero, List.set_cons_succ]
      refine wpAnyH_take (i := 2) (oi := { dst := some 27, op := Op.fieldAddr 107 (Operand.tmp 26) 3, type := 0, pos := "terminal.go:90", after := #[{ on := 1, ground := Ground.data }], guard := none }) (v := ?_) rfl (by kernel_rfl) (by kernel_rfl) (by kernel_rfl) (fun _ _ _ h => h) (Or.inl ⟨by rfl, ?_⟩) (by assumption) ?_
      rotate_left 1
      · intro w hSw
        try dsimp only at hSw
        go_simp
        try with_reducible rfl
      try simp only [Act.put, List.setIfInBounds_toArray, List.set_cons_zero, List.set_cons_succ]
      refine wpAnyH_take (i := 3) (oi := { dst := some 28, op := Op.load 104 (Operand.tmp 27), type := 104, pos := "terminal.go:90", after := #[{ on := 2, ground := Ground.data }], guard := none }) (v := ?_) rfl (by kernel_rfl) (by kernel_rfl) (by kernel_rfl) (fun _ _ _ h => h) (Or.inl ⟨by rfl, ?_⟩) (by assumption) ?_
      rotate_left 1
      · intro w hSw
        try dsimp only at hSw
        go_simp
        try with_reducible rfl
      try simp only [Act.put, List.setIfInBounds_toArray, List.set_cons_zero, List.set_cons_succ]
      refine wpAnyH_take (i := 4) (oi := { dst := some 29, op := Op.move (Operand.tmp 1), type := 3, pos := "terminal.go:90", after := #[], guard := none }) (v := ?_) rfl (by kernel_rfl) (by kernel_rfl) (by kernel_rfl) (fun _ _ _ h => h) (Or.inl ⟨by rfl, ?_⟩) (by assumption) ?_
      rotate_left 1
      · intro w hSw
        try dsimp only at hSw
        go_simp
        try with_reducible rfl
      try simp only [Act.put, List.setIfInBounds_toArray, List.set_cons_zero, List.set_cons_succ]
      refine wpAnyH_take (i := 5) (oi := { dst := some 30, op := Op.build 186 #[(1, Operand.tmp 29)], type := 186, pos := "terminal.go:90", after := #[{ on := 4, ground := Ground.data }], guard := none }) (v := ?_) rfl (by kernel_rfl) (by kernel_rfl) (by kernel_rfl) (fun _ _ _ h => h) (Or.inl ⟨by rfl, ?_⟩) (by assumption) ?_
      rotate_left 1
      · intro w hSw
        try dsimp only at hSw
        go_simp
        try with_reducible rfl
      try simp only [Act.put, List.setIfInBounds_toArray, List.set_cons_zero, List.set_cons_succ]
      refine wpAnyH_take (i := 6) (oi := { dst := some 31, op := Op.move (Operand.tmp 0), type := 30, pos := "terminal.go:90", after := #[], guard := none }) (v := ?_) rfl (by kernel_rfl) (by kernel_rfl) (by kernel_rfl) (fun _ _ _ h => h) (Or.inl ⟨by rfl, ?_⟩) (by assumption) ?_
      rotate_left 1
      · intro w hSw
        try dsimp only at hSw
        go_simp
        try with_reducible rfl
      try simp only [Act.put, List.setIfInBounds_toArray, List.set_cons_zero, List.set_cons_succ]
      refine wpAnyH_take (i := 7) (oi := { dst := some 32, op := Op.nilCheck (Operand.tmp 31), type := 0, pos := "terminal.go:90", after := #[{ on := 6, ground := Ground.data }], guard := none }) (v := ?_) rfl (by kernel_rfl) (by kernel_rfl) (by kernel_rfl) (fun _ _ _ h => h) (Or.inl ⟨by rfl, ?_⟩) (by assumption) ?_
      rotate_left 1
      · intro w hSw
        try dsimp only at hSw
        go_simp
        try with_reducible rfl
      try simp only [Act.put, List.setIfInBounds_toArray, List.set_cons_zero, List.set_cons_succ]
      refine wpAnyH_take (i := 8) (oi := { dst := some 33, op := Op.fieldAddr 107 (Operand.tmp 32) 5, type := 0, pos := "terminal.go:90", after := #[{ on := 7, ground := Ground.data }], guard := none }) (v := ?_) rfl (by kernel_rfl) (by kernel_rfl) (by kernel_rfl) (fun _ _ _ h => h) (Or.inl ⟨by rfl, ?_⟩) (by assumption) ?_
      rotate_left 1
      · intro w hSw
        try dsimp only at hSw
        go_simp
        try with_reducible rfl
      try simp only [Act.put, List.setIfInBounds_toArray, List.set_cons_zero, List.set_cons_succ]
      refine wpAnyH_take (i := 9) (oi := { dst := some 34, op := Op.load 2 (Operand.tmp 33), type := 2, pos := "terminal.go:90", after := #[{ on := 8, ground := Ground.data }], guard := none }) (v := ?_) rfl (by kernel_rfl) (by kernel_rfl) (by kernel_rfl) (fun _ _ _ h => h) (Or.inl ⟨by rfl, ?_⟩) (by assumption) ?_
      rotate_left 1
      · intro w hSw
        try dsimp only at hSw
        go_simp
        try with_reducible rfl
      try simp only [Act.put, List.setIfInBounds_toArray, List.set_cons_zero, List.set_cons_succ]
      refine wpAnyH_take (i := 10) (oi := { dst := some 35, op := Op.move (Operand.tmp 4), type := 3, pos := "terminal.go:90", after := #[], guard := none }) (v := ?_) rfl (by kernel_rfl) (by kernel_rfl) (by kernel_rfl) (fun _ _ _ h => h) (Or.inl ⟨by rfl, ?_⟩) (by assumption) ?_
      rotate_left 1
      · intro w hSw
        try dsimp only at hSw
        go_simp
        try with_reducible rfl
      try simp only [Act.put, List.setIfInBounds_toArray, List.set_cons_zero, List.set_cons_succ]
      refine wpAnyH_ready (rs := [11]) (by kernel_rfl) (by simp) ?_
      refine AllReadyH.cons (o := { dst := some 36, op := Op.call { callee := Callee.value (Operand.func 164), args := #[Operand.tmp 28, Operand.tmp 30, Operand.tmp 34, Operand.tmp 35], argTypes := #[104, 186, 2, 3] }, type := 31, pos := "terminal.go:90", after := #[{ on := 3, ground := Ground.data }, { on := 5, ground := Ground.data }, { on := 9, ground := Ground.data }, { on := 10, ground := Ground.data }], guard := none }) rfl (fun K hK => ?_) ?_
      rotate_left 1
      · exact AllReadyH.nil
      go_simp
      go_at_call 164
      refine hc.mono ?_
      rintro r w5 ⟨rfl, h5⟩
      clear hc
      have h6 : St w0 w5 (TtAt t e u c p (x.start 202) * R) := by
        unfold Tt.start
        rw [HP.out]
        exact St.tt_shut (e := e) (u := u) (c := c) (p := p) (sv := sv) (tv := tv) (h5.eq (by ac_rfl))
      have c5 := (h5.eq (show _ = blk t _ * (CAt c _ * (EnAt e x.e * (UsAt u x.u * (DeAt p x.d * (LAt 9 1 encS sv x.sent * (LAt TTold 2 tolC tv x.told * R)))))) by ac_rfl)).cell
      go_simp
      refine hK.out _ _ ⟨(c5 8).trans rfl, (c5 10).trans rfl⟩ (fun hHeld => ?_)
      clear hK K
      try simp only [Act.put, List.setIfInBounds_toArray, List.set_cons_zero, List.set_cons_succ]
      refine wpAnyH_done (by kernel_rfl) ?_ _
      clear c5 h5
      go_wp2
      go_end0
      exact ⟨rfl, h6⟩
    · have qb : (tm == 202) = false := by simp [b]
      have hp : (if tm = 200 then x.cf.t200 else if tm = 202 then x.cf.t202 else x.cf.t203) = x.cf.t203 := by rw [if_neg a, if_neg b]
      have hc := hc x.cf.t203
      have HP := Lib.hid hp
      clear hp a b
      go_enter Tryz.func89, Tryz.ntmps89
      go_upto_region 6 with fail
      refine wp_region_held_drew (S := fun wx => wx.cell? ⟨t, 8, none⟩ = some (ptrC c) ∧ wx.cell? ⟨t, 10, none⟩ = some (.int .i64 x.now)) (by kernel_rfl) ⟨k1, k2⟩ (fun hHeld => ?_)
      clear k1 k2 cc
      generalize w.drew = wd at *
      refine wpAnyH_take (i := 0) (oi := { dst := some 25, op := Op.move (Operand.tmp 0), type := 30, pos := "terminal.go:90", after := #[], guard := none }) (v := ?_) rfl (by kernel_rfl) (by kernel_rfl) (by kernel_rfl) (fun _ _ _ h => h) (Or.inl ⟨by rfl, ?_⟩) (by assumption) ?_
      rotate_left 1
      · intro w hSw
        try dsimp only at hSw
        go_simp
        try with_reducible rfl
      try simp only [Act.put, List.setIfInBounds_toArray, List.set_cons_zero, List.set_cons_succ]
      refine wpAnyH_take (i := 1) (oi := { dst := some 26, op := Op.nilCheck (Operand.tmp 25), type := 0, pos := "terminal.go:90", after := #[{ on := 0, ground := Ground.data }], guard := none }) (v := ?_) rfl (by kernel_rfl) (by kernel_rfl) (by kernel_rfl) (fun _ _ _ h => h) (Or.inl ⟨by rfl, ?_⟩) (by assumption) ?_
      rotate_left 1
      · intro w hSw
        try dsimp only at hSw
        go_simp
        try with_reducible rfl
      try simp only [Act.put, List.setIfInBounds_toArray, List.set_cons_zero, List.set_cons_succ]
      refine wpAnyH_take (i := 2) (oi := { dst := some 27, op := Op.fieldAddr 107 (Operand.tmp 26) 3, type := 0, pos := "terminal.go:90", after := #[{ on := 1, ground := Ground.data }], guard := none }) (v := ?_) rfl (by kernel_rfl) (by kernel_rfl) (by kernel_rfl) (fun _ _ _ h => h) (Or.inl ⟨by rfl, ?_⟩) (by assumption) ?_
      rotate_left 1
      · intro w hSw
        try dsimp only at hSw
        go_simp
        try with_reducible rfl
      try simp only [Act.put, List.setIfInBounds_toArray, List.set_cons_zero, List.set_cons_succ]
      refine wpAnyH_take (i := 3) (oi := { dst := some 28, op := Op.load 104 (Operand.tmp 27), type := 104, pos := "terminal.go:90", after := #[{ on := 2, ground := Ground.data }], guard := none }) (v := ?_) rfl (by kernel_rfl) (by kernel_rfl) (by kernel_rfl) (fun _ _ _ h => h) (Or.inl ⟨by rfl, ?_⟩) (by assumption) ?_
      rotate_left 1
      · intro w hSw
        try dsimp only at hSw
        go_simp
        try with_reducible rfl
      try simp only [Act.put, List.setIfInBounds_toArray, List.set_cons_zero, List.set_cons_succ]
      refine wpAnyH_take (i := 4) (oi := { dst := some 29, op := Op.move (Operand.tmp 1), type := 3, pos := "terminal.go:90", after := #[], guard := none }) (v := ?_) rfl (by kernel_rfl) (by kernel_rfl) (by kernel_rfl) (fun _ _ _ h => h) (Or.inl ⟨by rfl, ?_⟩) (by assumption) ?_
      rotate_left 1
      · intro w hSw
        try dsimp only at hSw
        go_simp
        try with_reducible rfl
      try simp only [Act.put, List.setIfInBounds_toArray, List.set_cons_zero, List.set_cons_succ]
      refine wpAnyH_take (i := 5) (oi := { dst := some 30, op := Op.build 186 #[(1, Operand.tmp 29)], type := 186, pos := "terminal.go:90", after := #[{ on := 4, ground := Ground.data }], guard := none }) (v := ?_) rfl (by kernel_rfl) (by kernel_rfl) (by kernel_rfl) (fun _ _ _ h => h) (Or.inl ⟨by rfl, ?_⟩) (by assumption) ?_
      rotate_left 1
      · intro w hSw
        try dsimp only at hSw
        go_simp
        try with_reducible rfl
      try simp only [Act.put, List.setIfInBounds_toArray, List.set_cons_zero, List.set_cons_succ]
      refine wpAnyH_take (i := 6) (oi := { dst := some 31, op := Op.move (Operand.tmp 0), type := 30, pos := "terminal.go:90", after := #[], guard := none }) (v := ?_) rfl (by kernel_rfl) (by kernel_rfl) (by kernel_rfl) (fun _ _ _ h => h) (Or.inl ⟨by rfl, ?_⟩) (by assumption) ?_
      rotate_left 1
      · intro w hSw
        try dsimp only at hSw
        go_simp
        try with_reducible rfl
      try simp only [Act.put, List.setIfInBounds_toArray, List.set_cons_zero, List.set_cons_succ]
      refine wpAnyH_take (i := 7) (oi := { dst := some 32, op := Op.nilCheck (Operand.tmp 31), type := 0, pos := "terminal.go:90", after := #[{ on := 6, ground := Ground.data }], guard := none }) (v := ?_) rfl (by kernel_rfl) (by kernel_rfl) (by kernel_rfl) (fun _ _ _ h => h) (Or.inl ⟨by rfl, ?_⟩) (by assumption) ?_
      rotate_left 1
      · intro w hSw
        try dsimp only at hSw
        go_simp
        try with_reducible rfl
      try simp only [Act.put, List.setIfInBounds_toArray, List.set_cons_zero, List.set_cons_succ]
      refine wpAnyH_take (i := 8) (oi := { dst := some 33, op := Op.fieldAddr 107 (Operand.tmp 32) 5, type := 0, pos := "terminal.go:90", after := #[{ on := 7, ground := Ground.data }], guard := none }) (v := ?_) rfl (by kernel_rfl) (by kernel_rfl) (by kernel_rfl) (fun _ _ _ h => h) (Or.inl ⟨by rfl, ?_⟩) (by assumption) ?_
      rotate_left 1
      · intro w hSw
        try dsimp only at hSw
        go_simp
        try with_reducible rfl
      try simp only [Act.put, List.setIfInBounds_toArray, List.set_cons_zero, List.set_cons_succ]
      refine wpAnyH_take (i := 9) (oi := { dst := some 34, op := Op.load 2 (Operand.tmp 33), type := 2, pos := "terminal.go:90", after := #[{ on := 8, ground := Ground.data }], guard := none }) (v := ?_) rfl (by kernel_rfl) (by kernel_rfl) (by kernel_rfl) (fun _ _ _ h => h) (Or.inl ⟨by rfl, ?_⟩) (by assumption) ?_
      rotate_left 1
      · intro w hSw
        try dsimp only at hSw
        go_simp
        try with_reducible rfl
      try simp only [Act.put, List.setIfInBounds_toArray, List.set_cons_zero, List.set_cons_succ]
      refine wpAnyH_take (i := 10) (oi := { dst := some 35, op := Op.move (Operand.tmp 4), type := 3, pos := "terminal.go:90", after := #[], guard := none }) (v := ?_) rfl (by kernel_rfl) (by kernel_rfl) (by kernel_rfl) (fun _ _ _ h => h) (Or.inl ⟨by rfl, ?_⟩) (by assumption) ?_
      rotate_left 1
      · intro w hSw
        try dsimp only at hSw
        go_simp
        try with_reducible rfl
      try simp only [Act.put, List.setIfInBounds_toArray, List.set_cons_zero, List.set_cons_succ]
      refine wpAnyH_ready (rs := [11]) (by kernel_rfl) (by simp) ?_
      refine AllReadyH.cons (o := { dst := some 36, op := Op.call { callee := Callee.value (Operand.func 164), args := #[Operand.tmp 28, Operand.tmp 30, Operand.tmp 34, Operand.tmp 35], argTypes := #[104, 186, 2, 3] }, type := 31, pos := "terminal.go:90", after := #[{ on := 3, ground := Ground.data }, { on := 5, ground := Ground.data }, { on := 9, ground := Ground.data }, { on := 10, ground := Ground.data }], guard := none }) rfl (fun K hK => ?_) ?_
      rotate_left 1
      · exact AllReadyH.nil
      go_simp
      go_at_call 164
      refine hc.mono ?_
      rintro r w5 ⟨rfl, h5⟩
      clear hc
      have h6 : St w0 w5 (TtAt t e u c p (x.start tm) * R) := by
        unfold Tt.start
        rw [HP.out]
        exact St.tt_shut (e := e) (u := u) (c := c) (p := p) (sv := sv) (tv := tv) (h5.eq (by ac_rfl))
      have c5 := (h5.eq (show _ = blk t _ * (CAt c _ * (EnAt e x.e * (UsAt u x.u * (DeAt p x.d * (LAt 9 1 encS sv x.sent * (LAt TTold 2 tolC tv x.told * R)))))) by ac_rfl)).cell
      go_simp
      refine hK.out _ _ ⟨(c5 8).trans rfl, (c5 10).trans rfl⟩ (fun hHeld => ?_)
      clear hK K
      try simp only [Act.put, List.setIfInBounds_toArray, List.set_cons_zero, List.set_cons_succ]
      refine wpAnyH_done (by kernel_rfl) ?_ _
      clear c5 h5
      go_wp2
      go_end0
      exact ⟨rfl, h6⟩
theorem putO_size {f : Fr} {net : Bool} (ok : PutOk f) : (putO f net).size ≤ 1000 := by
  obtain ⟨i1, _, _⟩ := carries_le ok.car
  have h2 := ctlO_len f.kind f.pf f.ns f.nr
  unfold putO
  rw [sealed_size, ByteArray.size_append, ByteArray.size_append, octets_size, octets_size]
  show 2 + _ + _ + 2 ≤ 1000
  omega
set_option maxRecDepth 100000 in
set_option maxHeartbeats 1600000 in
theorem t_send (t e u c p : Nat) (x : Tt) (f : Fr) (ok : PutOk f) (hl : x.sent.length ≤ 1000000000000) (w0 w : World) (R : HP) (hN : ∀ w', St w0 w' R → NamesAt w') (hF : ∀ w', St w0 w' R → FirstAt w') (h : St w0 w (TtAt t e u c p x * R)) :
    Calls Tryz.prog 88 #[ptr t, .agg f.cells.toArray] w fun r w' => r = .returned (.tuple #[]) ∧ St w0 w' (TtAt t e u c p (x.send f) * R) := by
  have hz := putO_size (net := false) ok
  have h1 := h.alloc (.cells f.cells.toArray TFr)
  have hp := p_put f false ok w0 _ _ (fun w' h => hN w' h.drop.drop) (fun w' h => hF w' h.drop.drop) h1
  have c1 := h1.cell
  unfold Tt.send
  generalize putO f false = oc at *
  have he := fun v A h => h_encode oc w0 v A h (by omega)
  generalize bstr (encB oc.data.toList) = bs at *
  obtain ⟨a1, a2, cmd, k, pf, ns, nr, inf⟩ := f
  simp only [Fr.cells] at *
  clear h ok hN hF hz
  go_enter Tryz.func88, Tryz.ntmps88
  go_upto_region 1 with fail
  generalize w.alloc _ = wa at *
  generalize w.heap.size = gf at *
  go_upto_region 2 with (go_at_call 79; refine hp.mono ?_; rintro e w5 ⟨rfl, h5⟩)
  obtain ⟨sv, tv, h6⟩ := h5.drop.tt_open
  obtain ⟨n, hn⟩ : ∃ n, x.sent.length = n := ⟨_, rfl⟩
  have hle : (x.sent.length + [bs].length) * 16 ≤ 140737488355328 := by show (x.sent.length + 1) * 16 ≤ _; omega
  clear c1 hp h1 h5
  have c6 := h6.drew.cell
  have h60 := h6.drew
  go_region_law (first
    | (go_simp; go_at_call 80; with_reducible refine (he _ _ h60).mono ?_; rintro r w7 ⟨rfl, h7⟩; have c7 := h7.cell; have c9 := (h7.alloc (.cells #[.string bs] 9)).f2.cell; have HX := (((h7.alloc (.cells #[.string bs] 9)).l_mk (enc := encS) (sz := 1) tyStr.len [bs] 1 rfl rfl (by decide)).eq (show _ = LAt 9 1 encS sv x.sent * (LAt 9 1 encS (.slice (some ⟨w7.heap.size, 0, none⟩) 1 1) [bs] * (blk t _ * (EnAt e x.e * (UsAt u x.u * (CAt c x.c * (DeAt p x.d * (LAt TTold 2 tolC tv x.told * R))))))) by ac_rfl)))
    | (refine step_append_l rfl (.tmp 16) (.tmp 19) rfl tyStr HX (by simp) rfl rfl hle ?_; intro g off cap w8 h12; have c8 := h12.f2.cell; have f8 := h12.f2.free))
  all_goals
    rw [hn] at h12
    have h13 := h12.f2.set 11 (.slice (some ⟨g, off, none⟩) (n + 1) cap)
    have h14 : St w0 _ (TtAt t e u c p { x with sent := x.sent ++ [bs] } * R) := St.tt_shut (x := { x with sent := x.sent ++ [bs] }) (e := e) (u := u) (c := c) (p := p) (sv := .slice (some ⟨g, off, none⟩) (n + 1) cap) (tv := tv) (h13.eq (by ac_rfl))
    go_end0
    exact ⟨rfl, h14⟩
end Go.Proofs.YtnnahljdhdippaaGreatDoor
