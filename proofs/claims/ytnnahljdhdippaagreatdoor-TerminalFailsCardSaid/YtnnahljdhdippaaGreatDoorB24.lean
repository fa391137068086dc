/- A user: Message. A terminal: plain laws: what is always so of it, and of its user; how much it sends and tells. -/
import Derived.Test.YtnnahljdhdippaaGreatDoorB23
import Derived.Test.YtnnahljdhdippaaGreatDoorB22
import Derived.Test.YtnnahljdhdippaaGreatDoorB13
namespace Go.Proofs.YtnnahljdhdippaaGreatDoor
open Go.RowKit

/-- what a TEI is -/
def kindU (t : Int) : Int := if t < 0 ∨ 127 < t then 0 else if t < 64 then 1 else if t ≤ 126 then 2 else 3
theorem k_kind (t : Int) (w : World) : Calls Tryz.prog 182 #[.int .i64 t] w fun e w' => e = .returned (.int .i64 (kindU t)) ∧ w = w' := by
  unfold kindU
  by_cases a : t < 0
  · rw [if_pos (.inl a)]
    go_enter Tryz.func182, Tryz.ntmps182
    go_wp2
    go_ret
    exact ⟨rfl, rfl⟩
  by_cases b : 127 < t
  · rw [if_pos (.inr b)]
    go_enter Tryz.func182, Tryz.ntmps182
    go_wp2
    go_ret
    exact ⟨rfl, rfl⟩
  rw [if_neg (by omega)]
  have a' : ¬ t < 0 ∧ ¬ 127 < t := ⟨a, b⟩
  have ha : decide (t < 0) = false := by simpa using a
  have hb : decide (127 < t) = false := by simpa using b
  by_cases c : t < 64
  · rw [if_pos c]
    go_enter Tryz.func182, Tryz.ntmps182
    go_wp2
    go_ret
    exact ⟨rfl, rfl⟩
  rw [if_neg c]
  by_cases d : t ≤ 126
  · rw [if_pos d]
    go_enter Tryz.func182, Tryz.ntmps182
    go_wp2
    go_ret
    exact ⟨rfl, rfl⟩
  rw [if_neg d]
  go_enter Tryz.func182, Tryz.ntmps182
  go_wp2
  go_ret
  exact ⟨rfl, rfl⟩
theorem kind_auto (t : Int) : (kindU t == 2) = autoTei t := by
  unfold kindU autoTei
  by_cases a : t < 0 ∨ 127 < t
  · rw [if_pos a]
    have : ¬ (64 ≤ t ∧ t ≤ 126) := by omega
    simp at *
    omega
  · rw [if_neg a]
    by_cases c : t < 64
    · rw [if_pos c]
      simp
      omega
    · rw [if_neg c]
      by_cases d : t ≤ 126
      · rw [if_pos d]
        simp
        omega
      · rw [if_neg d]
        simp
        omega
set_option maxRecDepth 100000 in
set_option maxHeartbeats 1600000 in
theorem u_message (u : Nat) (x : Us) (m : Tm) (w0 w : World) (R : HP) (h : St w0 w (UsAt u x * R)) :
    Calls Tryz.prog 111 #[ptr u, .agg m.cells.toArray] w fun e w' => ∃ l, e = .returned l ∧ St w0 w' (LAt TUe 5 Ue.cells l (x.message m).2 * (UsAt u (x.message m).1 * R)) := by
  obtain ⟨v, h1⟩ := h.us_open
  have h2 := h1.alloc (.cells #[.int .i64 m.ty, .int .i64 m.ri, .int .i64 m.ai] TTm)
  have hp := m_put m w0 _ _ h2
  have c2 := h2.cell
  unfold Us.message
  by_cases hb : m.bad = 0
  · rw [if_neg (fun h => h hb)]
    rw [hb] at hp
    obtain ⟨ty, ri, ai⟩ := m
    obtain ⟨⟨a1, a2, a3, a4⟩, mo, d⟩ := x
    simp only [Tm.cells] at *
    generalize Tm.oct _ = oc at *
    obtain ⟨M, hM⟩ : ∃ M, Us.mine ⟨⟨a1, a2, a3, a4⟩, mo, d⟩ ⟨ty, ri, ai⟩ = M := ⟨_, rfl⟩
    rw [hM]
    obtain ⟨A, hA⟩ : ∃ A : Bool, decide (ty = 2 ∧ a2 = true ∧ ri = a3 ∧ autoTei ai = true) = A := ⟨_, rfl⟩
    obtain ⟨X, hX⟩ : ∃ X, (if ty = 2 ∧ a2 = true ∧ ri = a3 ∧ autoTei ai = true then ((⟨⟨ai, false, 0, 0⟩, mo, d⟩ : Us), [Ue.of 5 0, .of 1 ai])
      else if (ty = 2 ∧ M = true ∧ ai = a1) ∨ (ty = 6 ∧ M = true) then Us.lose ⟨⟨a1, a2, a3, a4⟩, mo, d⟩
      else if ty = 4 ∧ M = true then (⟨⟨a1, a2, a3, a4⟩, mo, d.next.1⟩, [.say 5 d.next.2 a1])
      else (⟨⟨a1, a2, a3, a4⟩, mo, d⟩, [])) = X := ⟨_, rfl⟩
    show Calls _ _ _ _ (fun e w' => ∃ l, e = .returned l ∧ St w0 w' (LAt TUe 5 Ue.cells l (if ty = 2 ∧ a2 = true ∧ ri = a3 ∧ autoTei ai = true then ((⟨⟨ai, false, 0, 0⟩, mo, d⟩ : Us), [Ue.of 5 0, .of 1 ai])
      else if (ty = 2 ∧ M = true ∧ ai = a1) ∨ (ty = 6 ∧ M = true) then Us.lose ⟨⟨a1, a2, a3, a4⟩, mo, d⟩
      else if ty = 4 ∧ M = true then (⟨⟨a1, a2, a3, a4⟩, mo, d.next.1⟩, [.say 5 d.next.2 a1])
      else (⟨⟨a1, a2, a3, a4⟩, mo, d⟩, [])).2 * (UsAt u (if ty = 2 ∧ a2 = true ∧ ri = a3 ∧ autoTei ai = true then ((⟨⟨ai, false, 0, 0⟩, mo, d⟩ : Us), [Ue.of 5 0, .of 1 ai])
      else if (ty = 2 ∧ M = true ∧ ai = a1) ∨ (ty = 6 ∧ M = true) then Us.lose ⟨⟨a1, a2, a3, a4⟩, mo, d⟩
      else if ty = 4 ∧ M = true then (⟨⟨a1, a2, a3, a4⟩, mo, d.next.1⟩, [.say 5 d.next.2 a1])
      else (⟨⟨a1, a2, a3, a4⟩, mo, d⟩, [])).1 * R)))
    rw [hX]
    have HX := Lib.hid hX
    have HA := Lib.hid hA
    have HM := Lib.hid hM
    clear hX hA hM hb h
    go_enter Tryz.func111, Tryz.ntmps111
    go_upto_region 1 with fail
    have lt1 := h1.lt
    generalize w.alloc _ = wa at *
    generalize hgm : w.heap.size = gm at *
    go_upto_region 2 with (go_at_call 145; refine hp.mono ?_; rintro e w5 ⟨rfl, h5⟩)
    clear c2 hp h2 h1
    have c5 := h5.f2.cell
    have lt2 := h5.lt
    go_upto_region 5 with fail
    have h6 := h5.alloc (.cells #[.int .i64 a1, .bool a2, .int .i64 a3, .int .i64 a4] 63)
    generalize w5.alloc _ = w6 at *
    generalize hgv : w5.heap.size = gv at *
    have ne1 : gv ≠ gm := by omega
    have ne2 : gm ≠ gv := by omega
    have ne3 : gv ≠ u := by omega
    have ne4 : u ≠ gv := by omega
    have ne5 : gm ≠ u := by omega
    have ne6 : u ≠ gm := by omega
    clear c5 h5
    have c6 := h6.cell
    have c7 := h6.f2.cell
    go_cut [8] (fun s8 wx => s8 = .bool M ∧ w6 = wx)
    case first =>
      have hm : M = (a1 != -1 && (ai == a1 || ai == 127)) := HM.out.symm
      clear HX HA HM
      by_cases e1 : a1 = -1
      · have hmv : M = false := by rw [hm, e1]; rfl
        have q1 : (a1 != -1) = false := by simp [e1]
        clear hm e1
        go_wp2
        go_meet
        exact ⟨by rw [hmv], rfl⟩
      · have q1 : (a1 != -1) = true := by simp [e1]
        by_cases e2 : ai = a1
        · have q2 : (ai == a1) = true := by simp [e2]
          have hmv : M = true := by rw [hm, q1, q2]; rfl
          clear hm e1 e2
          go_wp2
          go_meet
          exact ⟨by rw [hmv], rfl⟩
        · have q2 : (ai == a1) = false := by simp [e2]
          by_cases e3 : ai = 127
          · have q3 : (ai == 127) = true := by simp [e3]
            have hmv : M = true := by rw [hm, q1, q2, q3]; rfl
            clear hm e1 e2 e3
            go_wp2
            go_meet
            exact ⟨by rw [hmv], rfl⟩
          · have q3 : (ai == 127) = false := by simp [e3]
            have hmv : M = false := by rw [hm, q1, q2, q3]; rfl
            clear hm e1 e2 e3
            go_wp2
            go_meet
            exact ⟨by rw [hmv], rfl⟩
    case rest =>
      obtain ⟨rfl, rfl⟩ := hcut
      have hk := fun w => k_kind ai w
      have hka := kind_auto ai
      go_upto_region 6 with fail
      go_cut [39] (fun s39 wx => s39 = .bool A ∧ w6 = wx)
      case first =>
        have hA := HA.out
        clear HX HA HM
        generalize kindU ai = K at *
        by_cases e1 : ty = 2
        · have q1 : (ty == 2) = true := by simp [e1]
          cases a2 with
          | false =>
            have hmv : A = false := by rw [← hA]; simp
            clear hA e1
            go_wp2
            go_meet
            exact ⟨by rw [hmv], rfl⟩
          | true =>
            by_cases e2 : ri = a3
            · have q2 : (ri == a3) = true := by simp [e2]
              cases hu : autoTei ai with
              | true =>
                have hmv : A = true := by rw [← hA]; simp [e1, e2, hu]
                rw [hu] at hka
                clear hA e1 e2 hu
                go_wp2_with (go_at_call 182; refine (hk _).mono ?_; rintro e w8 ⟨rfl, rfl⟩)
                go_meet
                exact ⟨by rw [hmv], rfl⟩
              | false =>
                have hmv : A = false := by rw [← hA]; simp [hu]
                rw [hu] at hka
                clear hA e1 e2 hu
                go_wp2_with (go_at_call 182; refine (hk _).mono ?_; rintro e w8 ⟨rfl, rfl⟩)
                go_meet
                exact ⟨by rw [hmv], rfl⟩
            · have q2 : (ri == a3) = false := by simp [e2]
              have hmv : A = false := by rw [← hA]; simp [e2]
              clear hA e1 e2
              go_wp2
              go_meet
              exact ⟨by rw [hmv], rfl⟩
        · have q1 : (ty == 2) = false := by simp [e1]
          have hmv : A = false := by rw [← hA]; simp [e1]
          clear hA e1
          go_wp2
          go_meet
          exact ⟨by rw [hmv], rfl⟩
      case rest =>
        obtain ⟨rfl, rfl⟩ := hcut
        clear hk hka HM
        cases A with
        | true =>
          have hc := of_decide_eq_true HA.out
          have hX := (if_pos hc).symm.trans HX.out
          subst hX
          have c8 := h6.f3.cell
          have f8 := h6.f3.free
          clear hc HA HX
          go_upto_region 8 with fail
          have h7 := ((((h6.f3.set 0 (.int .i64 ai)).set 1 (.bool false)).set 2 (.int .i64 0)).set 3 (.int .i64 0))
          generalize (((w6.setCell _ _).setCell _ _).setCell _ _).setCell _ _ = w7 at *
          clear c6 c7 c8 f8 h6
          have cm := h7.b3.f2.cell
          have h8 : St w0 w7 (UsAt u ⟨⟨ai, false, 0, 0⟩, mo, d⟩ * R) := St.us_shut (x := ⟨⟨ai, false, 0, 0⟩, mo, d⟩) (v := v) h7.b3.drop.drop
          have h9 := (h8.alloc (.cells #[.int .i64 5, .int .i64 0, .int .i64 0, .int .i64 0, .int .i64 0, .int .i64 1, .int .i64 0, .int .i64 0, .int .i64 0, .int .i64 ai] TUe)).l_mk tyUe.len [.of 5 0, .of 1 ai] 2 rfl rfl (by decide)
          clear h7 h8
          go_wp2
          go_ret
          exact ⟨_, rfl, h9⟩
        | false =>
          have hc := of_decide_eq_false HA.out
          have hX := (if_neg hc).symm.trans HX.out
          clear hc HA HX
          by_cases e2 : ty = 2
          · subst e2
            cases M with
            | false =>
              have hX2 : ((⟨⟨a1, a2, a3, a4⟩, mo, d⟩ : Us), ([] : List Ue)) = X := by rw [← hX, if_neg (by simp), if_neg (by simp)]
              subst hX2
              have h9 := (St.us_shut (x := ⟨⟨a1, a2, a3, a4⟩, mo, d⟩) h6.drop.drop).l_nil TUe 5 Ue.cells
              clear hX
              go_wp2
              go_ret
              exact ⟨_, rfl, h9⟩
            | true =>
              by_cases e3 : ai = a1
              · have q3 : (ai == a1) = true := by simp [e3]
                have HP : ((2 : Int) = 2 ∧ true = true ∧ ai = a1) ∨ ((2 : Int) = 6 ∧ true = true) := .inl ⟨rfl, rfl, e3⟩
                clear e3
                have hX2 := (if_pos HP).symm.trans hX
                subst hX2
                have hl := u_lose u ⟨⟨a1, a2, a3, a4⟩, mo, d⟩ w0 w6 R (St.us_shut (x := ⟨⟨a1, a2, a3, a4⟩, mo, d⟩) h6.drop.drop)
                clear hX h6
                go_wp2_with fail
                refine hl.mono ?_
                rintro e w8 ⟨l, rfl, h8⟩
                clear hl c6 c7
                go_wp2
                go_ret
                exact ⟨_, rfl, h8⟩
              · have q3 : (ai == a1) = false := by simp [e3]
                have HP : ¬ (((2 : Int) = 2 ∧ true = true ∧ ai = a1) ∨ ((2 : Int) = 6 ∧ true = true)) := by simp [e3]
                clear e3
                have hX2 : ((⟨⟨a1, a2, a3, a4⟩, mo, d⟩ : Us), ([] : List Ue)) = X := by rw [← hX, if_neg HP, if_neg (by simp)]
                subst hX2
                have h9 := (St.us_shut (x := ⟨⟨a1, a2, a3, a4⟩, mo, d⟩) h6.drop.drop).l_nil TUe 5 Ue.cells
                clear hX
                go_wp2
                go_ret
                exact ⟨_, rfl, h9⟩
          · by_cases e6 : ty = 6
            · subst e6
              cases M with
              | false =>
                have hX2 : ((⟨⟨a1, a2, a3, a4⟩, mo, d⟩ : Us), ([] : List Ue)) = X := by rw [← hX, if_neg (by simp), if_neg (by simp)]
                subst hX2
                have h9 := (St.us_shut (x := ⟨⟨a1, a2, a3, a4⟩, mo, d⟩) h6.drop.drop).l_nil TUe 5 Ue.cells
                clear hX
                go_wp2
                go_ret
                exact ⟨_, rfl, h9⟩
              | true =>
                have HP : ((6 : Int) = 2 ∧ true = true ∧ ai = a1) ∨ ((6 : Int) = 6 ∧ true = true) := .inr ⟨rfl, rfl⟩
                have hX2 := (if_pos HP).symm.trans hX
                subst hX2
                have hl := u_lose u ⟨⟨a1, a2, a3, a4⟩, mo, d⟩ w0 w6 R (St.us_shut (x := ⟨⟨a1, a2, a3, a4⟩, mo, d⟩) h6.drop.drop)
                clear hX h6
                go_wp2_with fail
                refine hl.mono ?_
                rintro e w8 ⟨l, rfl, h8⟩
                clear hl c6 c7
                go_wp2
                go_ret
                exact ⟨_, rfl, h8⟩
            · by_cases e4 : ty = 4
              · subst e4
                cases M with
                | false =>
                  have hX2 : ((⟨⟨a1, a2, a3, a4⟩, mo, d⟩ : Us), ([] : List Ue)) = X := by rw [← hX, if_neg (by simp), if_neg (by simp)]
                  subst hX2
                  have h9 := (St.us_shut (x := ⟨⟨a1, a2, a3, a4⟩, mo, d⟩) h6.drop.drop).l_nil TUe 5 Ue.cells
                  clear hX
                  go_wp2
                  go_ret
                  exact ⟨_, rfl, h9⟩
                | true =>
                  have hX2 := ((if_neg (show ¬ (((4 : Int) = 2 ∧ true = true ∧ ai = a1) ∨ ((4 : Int) = 6 ∧ true = true)) by simp)).symm.trans hX)
                  have hX3 := ((if_pos (show (4 : Int) = 4 ∧ true = true from ⟨rfl, rfl⟩)).symm.trans hX2)
                  subst hX3
                  have hn := dv_next v d w0 w6.drew _ h6.f4.drew
                  obtain ⟨D, hD⟩ : ∃ D, d.next = D := ⟨_, rfl⟩
                  rw [hD] at hn
                  obtain ⟨d', n⟩ := D
                  have HD := Lib.hid hD
                  simp only [] at hn
                  clear hX hX2 e2 e6 hD
                  have k1 : w6.drew.cell? ⟨u, 5, none⟩ = some (nextF v) := (h6.f3.drew.cell 5).trans rfl
                  have k2 : w6.drew.cell? ⟨gv, 0, none⟩ = some (.int .i64 a1) := (h6.drew.cell 0).trans rfl
                  go_upto_region 13 with fail
                  clear c6 c7 h6
                  refine wp_region_held_drew (S := fun wx => wx.cell? ⟨u, 5, none⟩ = some (nextF v) ∧ wx.cell? ⟨gv, 0, none⟩ = some (.int .i64 a1)) (by kernel_rfl) ⟨k1, k2⟩ (fun hHeld => ?_)
                  clear k1 k2
                  generalize w6.drew = wd at *
                  refine wpAnyH_take (i := 0) (oi := { dst := some 100, op := Op.move (Operand.tmp 0), type := 102, pos := "user.go:105", after := #[], guard := none }) (v := ?_) rfl (by kernel_rfl) (by kernel_rfl) (by kernel_rfl) (fun _ _ _ h => h) (Or.inl ⟨by rfl, ?_⟩) (by assumption) ?_
                  rotate_left 1
                  · intro w hSw
                    try dsimp only at hSw
                    go_simp
                    try with_reducible rfl
                  try simp only [Act.put, List.setIfInBounds_toArray, List.set_cons_zero, List.set_cons_succ]
                  refine wpAnyH_take (i := 1) (oi := { dst := some 101, op := Op.nilCheck (Operand.tmp 100), type := 0, pos := "user.go:105", after := #[{ on := 0, ground := Ground.data }], guard := none }) (v := ?_) rfl (by kernel_rfl) (by kernel_rfl) (by kernel_rfl) (fun _ _ _ h => h) (Or.inl ⟨by rfl, ?_⟩) (by assumption) ?_
                  rotate_left 1
                  · intro w hSw
                    try dsimp only at hSw
                    go_simp
                    try with_reducible rfl
                  try simp only [Act.put, List.setIfInBounds_toArray, List.set_cons_zero, List.set_cons_succ]
                  refine wpAnyH_take (i := 2) (oi := { dst := some 102, op := Op.fieldAddr 207 (Operand.tmp 101) 2, type := 0, pos := "user.go:105", after := #[{ on := 1, ground := Ground.data }], guard := none }) (v := ?_) rfl (by kernel_rfl) (by kernel_rfl) (by kernel_rfl) (fun _ _ _ h => h) (Or.inl ⟨by rfl, ?_⟩) (by assumption) ?_
                  rotate_left 1
                  · intro w hSw
                    try dsimp only at hSw
                    go_simp
                    try with_reducible rfl
                  try simp only [Act.put, List.setIfInBounds_toArray, List.set_cons_zero, List.set_cons_succ]
                  refine wpAnyH_take (i := 3) (oi := { dst := some 103, op := Op.load 205 (Operand.tmp 102), type := 205, pos := "user.go:105", after := #[{ on := 2, ground := Ground.data }], guard := none }) (v := ?_) rfl (by kernel_rfl) (by kernel_rfl) (by kernel_rfl) (fun _ _ _ h => h) (Or.inl ⟨by rfl, ?_⟩) (by assumption) ?_
                  rotate_left 1
                  · intro w hSw
                    try dsimp only at hSw
                    go_simp
                    try with_reducible rfl
                  try simp only [Act.put, List.setIfInBounds_toArray, List.set_cons_zero, List.set_cons_succ]
                  refine wpAnyH_take (i := 5) (oi := { dst := some 105, op := Op.fieldAddr 63 (Operand.tmp 7) 0, type := 0, pos := "user.go:105", after := #[], guard := none }) (v := ?_) rfl (by kernel_rfl) (by kernel_rfl) (by kernel_rfl) (fun _ _ _ h => h) (Or.inl ⟨by rfl, ?_⟩) (by assumption) ?_
                  rotate_left 1
                  · intro w hSw
                    try dsimp only at hSw
                    go_simp
                    try with_reducible rfl
                  try simp only [Act.put, List.setIfInBounds_toArray, List.set_cons_zero, List.set_cons_succ]
                  refine wpAnyH_take (i := 6) (oi := { dst := some 106, op := Op.load 3 (Operand.tmp 105), type := 3, pos := "user.go:105", after := #[{ on := 5, ground := Ground.data }], guard := none }) (v := ?_) rfl (by kernel_rfl) (by kernel_rfl) (by kernel_rfl) (fun _ _ _ h => h) (Or.inl ⟨by rfl, ?_⟩) (by assumption) ?_
                  rotate_left 1
                  · intro w hSw
                    try dsimp only at hSw
                    go_simp
                    try with_reducible rfl
                  try simp only [Act.put, List.setIfInBounds_toArray, List.set_cons_zero, List.set_cons_succ]
                  refine wpAnyH_ready (rs := [4]) (by kernel_rfl) (by simp) ?_
                  refine AllReadyH.cons (o := { dst := some 104, op := Op.call { callee := Callee.value (Operand.tmp 103), args := #[], argTypes := #[] }, type := 3, pos := "user.go:105", after := #[{ on := 3, ground := Ground.data }], guard := none }) rfl (fun K hK => ?_) ?_
                  rotate_left 1
                  · exact AllReadyH.nil
                  go_simp
                  go_at_call 76
                  refine hn.mono ?_
                  rintro e w8 ⟨rfl, h8⟩
                  clear hn
                  go_simp
                  refine hK.out _ _ ⟨(h8.f4.cell 5).trans rfl, (h8.f2.cell 0).trans rfl⟩ (fun hHeld => ?_)
                  clear hK K
                  try simp only [Act.put, List.setIfInBounds_toArray, List.set_cons_zero, List.set_cons_succ]
                  clear hHeld
                  refine wpAnyH_ready (rs := [7]) (by kernel_rfl) (by simp) ?_
                  refine AllReadyH.cons (o := { dst := some 107, op := Op.call { callee := Callee.value (Operand.func 183), args := #[Operand.const (Value.int IntKind.i64 5), Operand.tmp 104, Operand.tmp 106], argTypes := #[79, 3, 3] }, type := 270, pos := "user.go:105", after := #[{ on := 4, ground := Ground.data }, { on := 6, ground := Ground.data }, { on := 4, ground := Ground.chain }], guard := none }) rfl (fun K hK => ?_) ?_
                  rotate_left 1
                  · exact AllReadyH.nil
                  go_simp
                  go_at_call 183
                  refine (u_said 5 n a1 w0 _ _ h8).mono ?_
                  rintro e w9 ⟨rfl, h9⟩
                  clear h8
                  have hu := h9.f4
                  have h10 := h9.alloc (.cells #[.int .i64 0, .int .i64 5, .int .i64 n, .int .i64 a1, .int .i64 0] TUe)
                  go_simp
                  refine hK.out _ _ ⟨(h9.f4.cell 5).trans rfl, (h9.f2.cell 0).trans rfl⟩ (fun hHeld => ?_)
                  clear hK K
                  try simp only [Act.put, List.setIfInBounds_toArray, List.set_cons_zero, List.set_cons_succ]
                  refine wpAnyH_ready (rs := [8]) (by kernel_rfl) (by simp) ?_
                  refine AllReadyH.cons (o := { dst := some 108, op := Op.buildSlice 188 1 #[(0, Operand.tmp 107)], type := 188, pos := "user.go:105", after := #[{ on := 7, ground := Ground.data }], guard := none }) rfl (fun K hK => ?_) ?_
                  rotate_left 1
                  · exact AllReadyH.nil
                  go_simp
                  go_simp
                  refine hK.out _ _ ⟨(h10.f5.cell 5).trans rfl, (h10.f3.cell 0).trans rfl⟩ (fun hHeld => ?_)
                  clear hK K
                  try simp only [Act.put, List.setIfInBounds_toArray, List.set_cons_zero, List.set_cons_succ]
                  refine wpAnyH_take (i := 9) (oi := { dst := some 4, op := Op.assign (Operand.tmp 108), type := 188, pos := "user.go:105", after := #[{ on := 8, ground := Ground.data }, { on := 7, ground := Ground.chain }, { on := 0, ground := Ground.phase }, { on := 1, ground := Ground.phase }, { on := 2, ground := Ground.phase }, { on := 3, ground := Ground.phase }, { on := 4, ground := Ground.phase }, { on := 5, ground := Ground.phase }, { on := 6, ground := Ground.phase }, { on := 7, ground := Ground.phase }, { on := 8, ground := Ground.phase }], guard := none }) (v := ?_) rfl (by kernel_rfl) (by kernel_rfl) (by kernel_rfl) (fun _ _ _ h => h) (Or.inl ⟨by rfl, ?_⟩) (by assumption) ?_
                  rotate_left 1
                  · intro w hSw
                    try dsimp only at hSw
                    go_simp
                    try with_reducible rfl
                  try simp only [Act.put, List.setIfInBounds_toArray, List.set_cons_zero, List.set_cons_succ]
                  refine wpAnyH_done (by kernel_rfl) ?_ _
                  have hus : St w0 w9 (UsAt u ⟨⟨a1, a2, a3, a4⟩, mo, d'⟩ * R) := (St.us_shut (x := ⟨⟨a1, a2, a3, a4⟩, mo, d'⟩) (v := v) hu).b3.drop.drop
                  have h12 := (hus.alloc (.cells #[.int .i64 0, .int .i64 5, .int .i64 n, .int .i64 a1, .int .i64 0] TUe)).l_mk tyUe.len [.say 5 n a1] 1 rfl rfl (by decide)
                  clear h10 h9 hu hus
                  go_wp2
                  go_ret
                  refine ⟨_, rfl, ?_⟩
                  rw [HD.out]
                  exact h12
              · have q2 : (ty == 2) = false := by simp [e2]
                have q6 : (ty == 6) = false := by simp [e6]
                have q4 : (ty == 4) = false := by simp [e4]
                have HP : ¬ ((ty = 2 ∧ M = true ∧ ai = a1) ∨ (ty = 6 ∧ M = true)) := by simp [e2, e6]
                have HQ : ¬ (ty = 4 ∧ M = true) := by simp [e4]
                clear e2 e4 e6
                have hX2 : ((⟨⟨a1, a2, a3, a4⟩, mo, d⟩ : Us), ([] : List Ue)) = X := by rw [← hX, if_neg HP, if_neg HQ]
                subst hX2
                have h9 := (St.us_shut (x := ⟨⟨a1, a2, a3, a4⟩, mo, d⟩) h6.drop.drop).l_nil TUe 5 Ue.cells
                clear hX
                go_wp2
                go_ret
                exact ⟨_, rfl, h9⟩
  · rw [if_pos hb]
    have q : (m.bad != 0) = true := by simp [hb]
    generalize m.bad = bd at *
    obtain ⟨ty, ri, ai⟩ := m
    simp only [Tm.cells] at *
    generalize Tm.oct _ = oc at *
    clear hb h
    go_enter Tryz.func111, Tryz.ntmps111
    go_upto_region 1 with fail
    generalize w.alloc _ = wa at *
    generalize w.heap.size = gm at *
    go_wp2_with (go_at_call 145; refine hp.mono ?_; rintro e w5 ⟨rfl, h5⟩)
    have h6 := (St.us_shut (x := x) h5.drop).l_nil TUe 5 Ue.cells
    go_ret
    exact ⟨_, rfl, h6⟩
end Go.Proofs.YtnnahljdhdippaaGreatDoor

namespace Go.Proofs.YtnnahljdhdippaaGreatDoor
open Go.RowKit

/-! a user -/
structure Us.Ok (u : Us) : Prop where
  t0 : 0 ≤ u.v.tries
  tm : u.v.tries ≤ u.most
  m1 : 1 ≤ u.most
  m32 : u.most ≤ 32
  tei : u.v.tei = -1 ∨ (64 ≤ u.v.tei ∧ u.v.tei ≤ 126)
def UeG (y : Ue) : Prop := (y.kind = 0 → y.m.bad = 0) ∧ (y.kind = 1 → 64 ≤ y.tei ∧ y.tei ≤ 126)
def Uxs (l : List Ue) : Prop := ∀ y ∈ l, UeG y
theorem dr_range (d : Dr) : 0 ≤ d.next.2 ∧ d.next.2 < 65536 := by
  unfold Dr.next
  split
  · exact ⟨Int.le_refl _, by show (0 : Int) < 65536; decide⟩
  · split
    · rename_i n r _
      show 0 ≤ n % (65536 : Int) ∧ n % (65536 : Int) < 65536
      omega
    · obtain ⟨h1, h2⟩ := u64_range (IntKind.u64.wrap (d.state * 6364136223846793005) + 1442695040888963407)
      dsimp only
      generalize IntKind.u64.wrap (IntKind.u64.wrap (d.state * 6364136223846793005) + 1442695040888963407) = z at *
      omega
theorem tm_ok {t r a : Int} (t1 : 1 ≤ t) (t7 : t ≤ 7) (r0 : 0 ≤ r) (r1 : r < 65536) (a0 : 0 ≤ a) (a1 : a ≤ 127) : Tm.bad ⟨t, r, a⟩ = 0 := by
  unfold Tm.bad
  dsimp only
  rw [if_neg (by omega), if_neg (by omega), if_pos ⟨a0, a1⟩]
theorem uxs_nil : Uxs [] := fun y hy => by cases hy
theorem uxs_one {y : Ue} (h : UeG y) : Uxs [y] := fun z hz => by rw [List.mem_singleton.1 hz]; exact h
theorem uxs_two {y z : Ue} (h : UeG y) (h2 : UeG z) : Uxs [y, z] := fun a ha => by
  rcases List.mem_cons.1 ha with e | ha
  · rw [e]; exact h
  · rw [List.mem_singleton.1 ha]; exact h2
theorem ueG_of (k t : Int) (h0 : k ≠ 0) (h1 : k ≠ 1) : UeG (.of k t) := ⟨fun e => absurd e h0, fun e => absurd e h1⟩
theorem ueG_say {t r a : Int} (h : Tm.bad ⟨t, r, a⟩ = 0) : UeG (.say t r a) := ⟨fun _ => h, fun e => absurd (show (0 : Int) = 1 from e) (by decide)⟩
theorem us_ask {u : Us} (h : u.Ok) (n : Int) (h0 : 0 ≤ n) (h1 : n ≤ u.most) : (u.ask n).1.Ok ∧ Uxs (u.ask n).2 := by
  obtain ⟨r0, r1⟩ := dr_range u.d
  exact ⟨⟨h0, h1, h.m1, h.m32, .inl rfl⟩, uxs_two (ueG_say (tm_ok (by decide) (by decide) r0 r1 (by decide) (by decide))) (ueG_of 4 0 (by decide) (by decide))⟩
theorem us_zero {u : Us} (h : u.Ok) : Us.Ok { u with v := .zero } := ⟨Int.le_refl _, by show (0 : Int) ≤ u.most; have := h.m1; omega, h.m1, h.m32, .inl rfl⟩
theorem us_lose {u : Us} (h : u.Ok) : u.lose.1.Ok ∧ Uxs u.lose.2 := ⟨us_zero h, uxs_one (ueG_of 2 _ (by decide) (by decide))⟩
theorem us_want {u : Us} (h : u.Ok) : u.want.1.Ok ∧ Uxs u.want.2.1 := by
  unfold Us.want
  split
  · exact ⟨h, uxs_nil⟩
  · split
    · exact ⟨h, uxs_nil⟩
    · exact us_ask h 1 (by decide) h.m1
theorem us_message {u : Us} (h : u.Ok) (m : Tm) : (u.message m).1.Ok ∧ Uxs (u.message m).2 := by
  unfold Us.message
  split
  · exact ⟨h, uxs_nil⟩
  · split
    · rename_i h2
      have ha : 64 ≤ m.ai ∧ m.ai ≤ 126 := by have := h2.2.2.2; unfold autoTei at this; simpa using this
      refine ⟨⟨Int.le_refl _, by show (0 : Int) ≤ u.most; have := h.m1; omega, h.m1, h.m32, .inr ha⟩, uxs_two (ueG_of 5 _ (by decide) (by decide)) ⟨fun e => absurd (show (1 : Int) = 0 from e) (by decide), fun _ => ha⟩⟩
    · split
      · exact us_lose h
      · split
        · rename_i h4
          have hm : u.v.tei ≠ -1 := by have := h4.2; unfold Us.mine at this; simp at this; exact this.1
          obtain ⟨r0, r1⟩ := dr_range u.d
          have ht := h.tei
          exact ⟨⟨h.t0, h.tm, h.m1, h.m32, h.tei⟩, uxs_one (ueG_say (tm_ok (by decide) (by decide) r0 r1 (by omega) (by omega)))⟩
        · exact ⟨h, uxs_nil⟩
theorem us_drop {u : Us} (h : u.Ok) : u.drop.1.Ok ∧ Uxs u.drop.2.1 := by
  unfold Us.drop
  split
  · exact ⟨us_zero h, uxs_one (ueG_of 5 _ (by decide) (by decide))⟩
  · split
    · exact ⟨h, uxs_nil⟩
    · exact us_lose h
theorem us_timeout {u : Us} (h : u.Ok) : u.timeout.1.Ok ∧ Uxs u.timeout.2 := by
  unfold Us.timeout
  split
  · exact ⟨h, uxs_nil⟩
  · split
    · exact ⟨us_zero h, uxs_one (ueG_of 3 _ (by decide) (by decide))⟩
    · rename_i hn
      exact us_ask h _ (by have := h.t0; omega) (by have := h.tm; omega)
theorem us_want_len (u : Us) : u.want.2.1.length ≤ 2 := by
  unfold Us.want
  repeat' split
  all_goals first | exact Nat.zero_le _ | exact Nat.le_refl 2
theorem us_message_len (u : Us) (m : Tm) : (u.message m).2.length ≤ 2 := by
  unfold Us.message
  repeat' split
  all_goals first | exact Nat.zero_le _ | exact Nat.le_refl 2 | exact Nat.le_succ 1
theorem us_drop_len (u : Us) : u.drop.2.1.length ≤ 2 := by
  unfold Us.drop
  repeat' split
  all_goals first | exact Nat.zero_le _ | exact Nat.le_succ 1
theorem us_timeout_len (u : Us) : u.timeout.2.length ≤ 2 := by
  unfold Us.timeout
  repeat' split
  all_goals first | exact Nat.zero_le _ | exact Nat.le_succ 1 | exact Nat.le_refl 2

/-! timers -/
theorem mput_mem {α β : Type} [DecidableEq α] {k : α} {v : β} {p : α × β} : ∀ {l : List (α × β)}, p ∈ mput l k v → p ∈ l ∨ p = (k, v)
  | [], h => .inr (by simpa [mput] using h)
  | q :: l, h => by
    unfold mput at h
    split at h
    · rcases List.mem_cons.1 h with e | h
      · exact .inr e
      · exact .inl (List.mem_cons_of_mem _ h)
    · rcases List.mem_cons.1 h with e | h
      · exact .inl (by rw [e]; simp)
      · rcases mput_mem h with h | h
        · exact .inl (List.mem_cons_of_mem _ h)
        · exact .inr h
theorem mput_nodup {α β : Type} [DecidableEq α] {k : α} {v : β} : ∀ {l : List (α × β)}, (l.map (·.1)).Nodup → ((mput l k v).map (·.1)).Nodup
  | [], _ => by simp [mput]
  | q :: l, h => by
    rw [List.map_cons, List.nodup_cons] at h
    unfold mput
    split
    · rename_i e
      rw [List.map_cons, List.nodup_cons]
      exact ⟨by rw [← e]; exact h.1, h.2⟩
    · rename_i e
      rw [List.map_cons, List.nodup_cons]
      refine ⟨fun hm => ?_, mput_nodup h.2⟩
      obtain ⟨p, hp, e2⟩ := List.mem_map.1 hm
      rcases mput_mem hp with hp | hp
      · exact h.1 (List.mem_map.2 ⟨p, hp, e2⟩)
      · rw [hp] at e2; exact e e2.symm
theorem mdel_sublist {α β : Type} [DecidableEq α] (k : α) : ∀ l : List (α × β), (mdel l k).Sublist l
  | [] => by unfold mdel; exact List.Sublist.refl _
  | q :: l => by
    unfold mdel
    split
    · exact List.sublist_cons_self _ _
    · exact (mdel_sublist k l).cons_cons _
/-- the keys of a terminal's timers -/
def Keys (c : Tms) : Prop := (c.map (·.1)).Nodup ∧ ∀ p ∈ c, p.1 = (0, 200) ∨ p.1 = (0, 202) ∨ p.1 = (0, 203)
theorem keys_nil : Keys [] := ⟨by simp, fun p hp => by cases hp⟩
theorem keys_sub {c d : Tms} (h : Keys c) (hs : d.Sublist c) : Keys d := ⟨(hs.map _).nodup h.1, fun p hp => h.2 p (hs.subset hp)⟩
theorem keys_stop {c : Tms} (h : Keys c) (k : Key) : Keys (mdel c k) := keys_sub h (mdel_sublist k c)
theorem keys_start {c : Tms} (h : Keys c) {t : Int} (ht : t = 200 ∨ t = 202 ∨ t = 203) (now p : Int) : Keys (cstart c (0, t) now p).1 := by
  unfold cstart
  split
  · exact h
  · refine ⟨mput_nodup h.1, fun q hq => ?_⟩
    rcases mput_mem hq with hq | hq
    · exact h.2 q hq
    · rw [hq]
      rcases ht with rfl | rfl | rfl
      · exact .inl rfl
      · exact .inr (.inl rfl)
      · exact .inr (.inr rfl)
theorem keys_len {c : Tms} (h : Keys c) : c.length ≤ 3 := by
  have hL : ([(0, 200), (0, 202), (0, 203)] : List Key).Nodup := by decide
  have hp : (c.map (·.1)).Perm (([(0, 200), (0, 202), (0, 203)] : List Key).filter fun k => decide (k ∈ c.map (·.1))) := by
    rw [List.perm_ext_iff_of_nodup h.1 (List.filter_sublist.nodup hL)]
    intro k
    simp only [List.mem_filter, decide_eq_true_eq]
    constructor
    · intro hk
      refine ⟨?_, hk⟩
      obtain ⟨p, hp, e⟩ := List.mem_map.1 hk
      have := h.2 p hp
      rw [e] at this
      simpa using this
    · exact fun hk => hk.2
  have := hp.length_eq
  rw [List.length_map] at this
  rw [this]
  exact Nat.le_trans (List.length_filter_le _ _) (Nat.le_refl 3)

/-! a terminal -/
structure Tt.Fit (x : Tt) : Prop where
  e : x.e.Fit
  u : x.u.Ok
  d : x.d.Fits
  k : Keys x.c
def Tt.len (x : Tt) : Nat := x.sent.length + x.told.length
section
variable {x : Tt}
theorem fit_send (h : x.Fit) (f : Fr) : (x.send f).Fit := ⟨h.e, h.u, h.d, h.k⟩
theorem fit_tell (h : x.Fit) (k : Int) (d : ByteArray) : (x.tell k d).Fit := ⟨h.e, h.u, h.d, h.k⟩
theorem fit_start (h : x.Fit) {t : Int} (ht : t = 200 ∨ t = 202 ∨ t = 203) : (x.start t).Fit := ⟨h.e, h.u, h.d, keys_start h.k ht _ _⟩
theorem fit_stop (h : x.Fit) (t : Int) : (x.stop t).Fit := ⟨h.e, h.u, h.d, keys_stop h.k _⟩
theorem send_len (f : Fr) : (x.send f).len = x.len + 1 := by unfold Tt.len Tt.send; simp only [List.length_append, List.length_singleton]; omega
theorem tell_len (k : Int) (d : ByteArray) : (x.tell k d).len = x.len + 1 := by unfold Tt.len Tt.tell; simp only [List.length_append, List.length_singleton]; omega
theorem fit_link0 {t : Int} {y : Fx} (h : x.Fit) (hy : FxG t y) : (x.link0 y).Fit ∧ (x.link0 y).len ≤ x.len + 1 := by
  unfold Tt.link0
  split
  · exact ⟨fit_send h _, Nat.le_of_eq (send_len _)⟩
  · split
    · rename_i h9
      exact ⟨fit_start h (by rcases hy.2.1 with e | e | e; exact absurd h9 e.2; exact .inl e; exact .inr (.inr e)), Nat.le_succ _⟩
    · split
      · exact ⟨fit_stop h _, Nat.le_succ _⟩
      · exact ⟨fit_tell h _ _, Nat.le_of_eq (tell_len _ _)⟩
theorem fit_links0 {t : Int} : ∀ (l : List Fx) {x : Tt}, x.Fit → Fxs t l → (x.links0 l).Fit ∧ (x.links0 l).len ≤ x.len + l.length
  | [], _, h, _ => ⟨h, Nat.le_refl _⟩
  | y :: l, x, h, hl => by
    obtain ⟨h1, n1⟩ := fit_link0 h (hl y (by simp)).1
    obtain ⟨h2, n2⟩ := fit_links0 l h1 (fun z hz => hl z (List.mem_cons_of_mem _ hz))
    refine ⟨h2, ?_⟩
    rw [List.length_cons]
    exact Nat.le_trans n2 (by omega)
theorem link0_e (y : Fx) : (x.link0 y).e = x.e := by unfold Tt.link0; (repeat' split) <;> rfl
theorem link0_u (y : Fx) : (x.link0 y).u = x.u := by unfold Tt.link0; (repeat' split) <;> rfl
theorem link0_d (y : Fx) : (x.link0 y).d = x.d := by unfold Tt.link0; (repeat' split) <;> rfl
theorem link0_cf (y : Fx) : (x.link0 y).cf = x.cf := by unfold Tt.link0; (repeat' split) <;> rfl
theorem link0_now (y : Fx) : (x.link0 y).now = x.now := by unfold Tt.link0; (repeat' split) <;> rfl
theorem links0_e : ∀ (l : List Fx) {x : Tt}, (x.links0 l).e = x.e
  | [], _ => rfl
  | y :: l, _ => (links0_e l).trans (link0_e y)
theorem links0_u : ∀ (l : List Fx) {x : Tt}, (x.links0 l).u = x.u
  | [], _ => rfl
  | y :: l, _ => (links0_u l).trans (link0_u y)
theorem links0_d : ∀ (l : List Fx) {x : Tt}, (x.links0 l).d = x.d
  | [], _ => rfl
  | y :: l, _ => (links0_d l).trans (link0_d y)
theorem links0_cf : ∀ (l : List Fx) {x : Tt}, (x.links0 l).cf = x.cf
  | [], _ => rfl
  | y :: l, _ => (links0_cf l).trans (link0_cf y)
theorem links0_now : ∀ (l : List Fx) {x : Tt}, (x.links0 l).now = x.now
  | [], _ => rfl
  | y :: l, _ => (links0_now l).trans (link0_now y)
theorem fit_setE (h : x.Fit) {e : En} (he : e.Fit) : (x.setE e).Fit := ⟨he, h.u, h.d, h.k⟩
theorem fit_setU (h : x.Fit) {u : Us} (hu : u.Ok) : (x.setU u).Fit := ⟨h.e, hu, h.d, h.k⟩
theorem out0 {e : En} (h : e.Fit) : Out e 0 := by unfold Out; rw [h.out]; exact Nat.le_refl _
theorem fit_user1 {y : Ue} (h : x.Fit) : (x.user1 y).Fit ∧ (x.user1 y).len ≤ x.len + 100000 := by
  unfold Tt.user1
  split
  · exact ⟨fit_send h _, by rw [send_len]; omega⟩
  · split
    · exact ⟨fit_start h (.inr (.inl rfl)), Nat.le_add_right _ _⟩
    · split
      · exact ⟨fit_stop h _, Nat.le_add_right _ _⟩
      · split
        · obtain ⟨h1, h2, _⟩ := fit_assign h.e y.tei
          have hn := assign_len x.e (out0 h.e) h.e.ok.b.un y.tei
          obtain ⟨h3, n3⟩ := fit_links0 _ (fit_setE h h1) h2
          exact ⟨h3, Nat.le_trans n3 (Nat.add_le_add_left hn _)⟩
        · obtain ⟨h1, h2⟩ := fit_remove h.e
          have hn := remove_len x.e (out0 h.e)
          obtain ⟨h3, n3⟩ := fit_links0 _ (fit_setE h h1) h2
          exact ⟨h3, Nat.le_trans n3 (Nat.add_le_add_left hn _)⟩
theorem fit_users : ∀ (l : List Ue) {x : Tt}, x.Fit → (x.users l).Fit ∧ (x.users l).len ≤ x.len + 100000 * l.length
  | [], _, h => ⟨h, Nat.le_refl _⟩
  | y :: l, x, h => by
    obtain ⟨h1, n1⟩ := fit_user1 (y := y) h
    obtain ⟨h2, n2⟩ := fit_users l h1
    refine ⟨h2, ?_⟩
    rw [List.length_cons]
    exact Nat.le_trans n2 (by omega)
theorem links_eq : ∀ (l : List Fx) (x : Tt), (∀ z ∈ l, z.kind ≠ 8) → x.links l = x.links0 l
  | [], _, _ => rfl
  | y :: l, x, h => by
    have e : x.link1 y = x.link0 y := by unfold Tt.link1; rw [if_neg (h y (by simp))]
    show (x.link1 y).links l = (x.link0 y).links0 l
    rw [e]
    exact links_eq l _ (fun z hz => h z (List.mem_cons_of_mem _ hz))
theorem links_wish (x : Tt) : x.links [Fx.of 8 noStr] = (x.setU x.u.want.1).users x.u.want.2.1 := by
  show x.link1 (Fx.of 8 noStr) = _
  unfold Tt.link1
  rw [if_pos rfl]
theorem fit_links {t : Int} {l : List Fx} (h : x.Fit) (hl : Fxs t l ∨ l = [Fx.of 8 noStr]) (hn : l.length ≤ 100000) : (x.links l).Fit ∧ (x.links l).len ≤ x.len + 300000 := by
  rcases hl with hl | rfl
  · rw [links_eq l x (fun z hz => (hl z hz).1.2.2)]
    obtain ⟨h1, n1⟩ := fit_links0 l h hl
    exact ⟨h1, by omega⟩
  · rw [links_wish]
    obtain ⟨h1, n1⟩ := fit_users x.u.want.2.1 (fit_setU h (us_want h.u).1)
    have h2 := us_want_len x.u
    have h3 : (x.setU x.u.want.1).len = x.len := rfl
    exact ⟨h1, by omega⟩
theorem fit_begin (h : x.Fit) (now : Int) : (x.begin now).Fit := ⟨h.e, h.u, h.d, h.k⟩
theorem fit_hush (h : x.Fit) : x.hush.Fit := ⟨h.e, h.u, h.d, h.k⟩
theorem fit_tt_ask (h : x.Fit) (now a : Int) (d : ByteArray) : (x.ask now a d).1.Fit := by
  unfold Tt.ask
  split
  · exact fit_hush h
  · obtain ⟨h1, h2⟩ := fit_ask h.e a d
    exact (fit_links (fit_setE (fit_begin h now) h1) (h2.imp id (fun e => e.1)) (ask_len x.e (out0 h.e) a d)).1
theorem fit_come (h : x.Fit) (s : ByteArray) : (x.come s).Fit ∧ (x.come s).len ≤ x.len + 300000 := by
  unfold Tt.come
  dsimp only
  split
  · exact ⟨h, Nat.le_add_right _ _⟩
  · split
    · obtain ⟨h1, h2⟩ := us_message h.u (tmOf (getO s true).1 true).1
      obtain ⟨h3, n3⟩ := fit_users (x.u.message (tmOf (getO s true).1 true).1).2 (fit_setU h h1)
      have hn := us_message_len x.u (tmOf (getO s true).1 true).1
      have h4 : (x.setU (x.u.message (tmOf (getO s true).1 true).1).1).len = x.len := rfl
      exact ⟨h3, by omega⟩
    · split
      · exact ⟨h, Nat.le_add_right _ _⟩
      · split
        · exact ⟨fit_tell h _ _, by rw [tell_len]; omega⟩
        · split
          · obtain ⟨h1, h2⟩ := fit_frame h.e (getO s true).1
            obtain ⟨h3, n3⟩ := fit_links (fit_setE h h1) (.inl h2) (frame_len x.e (out0 h.e) _)
            exact ⟨h3, n3⟩
          · exact ⟨h, Nat.le_add_right _ _⟩
theorem fit_event (h : x.Fit) (v : Ev) : (x.event v).Fit ∧ (x.event v).len ≤ x.len + 300000 := by
  unfold Tt.event
  split
  · exact fit_come h _
  · exact ⟨h, Nat.le_add_right _ _⟩
theorem fit_events : ∀ (l : List Ev) {x : Tt}, x.Fit → (l.foldl Tt.event x).Fit ∧ (l.foldl Tt.event x).len ≤ x.len + 300000 * l.length
  | [], _, h => ⟨h, Nat.le_refl _⟩
  | y :: l, x, h => by
    obtain ⟨h1, n1⟩ := fit_event h y
    obtain ⟨h2, n2⟩ := fit_events l h1
    refine ⟨h2, ?_⟩
    rw [List.length_cons]
    exact Nat.le_trans n2 (by omega)
theorem fits_feed : ∀ (l : List Bool) {d : De}, d.Fits → (d.feed l).1.Fits
  | [], _, h => h
  | b :: l, _, h => fits_feed l (fits_bit h b)
theorem fit_tt_bits (h : x.Fit) (now : Int) (b : ByteArray) : (x.bits now b).1.Fit := by
  unfold Tt.bits
  split
  · exact fit_hush h
  · have h0 : ((x.begin now).setD (x.d.feed (bitsIn b.data.toList)).1).Fit := ⟨h.e, h.u, fits_feed _ h.d, h.k⟩
    exact (fit_events _ h0).1
theorem fit_over (h : x.Fit) (k : Key) : (x.over k).Fit ∧ (x.over k).len ≤ x.len + 300000 := by
  unfold Tt.over
  split
  · obtain ⟨h1, h2⟩ := us_timeout h.u
    obtain ⟨h3, n3⟩ := fit_users x.u.timeout.2 (fit_setU h h1)
    have hn := us_timeout_len x.u
    have h4 : (x.setU x.u.timeout.1).len = x.len := rfl
    exact ⟨h3, by omega⟩
  · obtain ⟨h1, h2⟩ := fit_timeout h.e k.2
    obtain ⟨h3, n3⟩ := fit_links (fit_setE h h1) (.inl h2) (timeout_len x.e (out0 h.e) _)
    exact ⟨h3, n3⟩
theorem fit_overs : ∀ (l : List Key) {x : Tt}, x.Fit → (l.foldl Tt.over x).Fit ∧ (l.foldl Tt.over x).len ≤ x.len + 300000 * l.length
  | [], _, h => ⟨h, Nat.le_refl _⟩
  | y :: l, x, h => by
    obtain ⟨h1, n1⟩ := fit_over h y
    obtain ⟨h2, n2⟩ := fit_overs l h1
    refine ⟨h2, ?_⟩
    rw [List.length_cons]
    exact Nat.le_trans n2 (by omega)
theorem keys_left {c : Tms} (h : Keys c) (now : Int) : Keys (leftK c now) := keys_sub h List.filter_sublist
theorem fit_tick (h : x.Fit) (now : Int) : (x.tick now).1.Fit := by
  unfold Tt.tick
  split
  · exact fit_hush h
  · have h0 : ((x.begin now).setC (leftK x.c now)).Fit := ⟨h.e, h.u, h.d, keys_left h.k now⟩
    exact (fit_overs _ h0).1
theorem fits_new : De.new.Fits := Nat.zero_le _
theorem fit_drop (h : x.Fit) (now : Int) : (x.drop now).1.Fit := by
  unfold Tt.drop
  split
  · exact fit_hush h
  · dsimp only
    have h1 := (fit_users x.u.drop.2.1 (fit_setU (fit_begin h now) (us_drop h.u).1)).1
    generalize ((x.begin now).setU x.u.drop.1).users x.u.drop.2.1 = y at *
    obtain ⟨h2, h3⟩ := fit_remove h1.e
    have h4 := (fit_links (fit_setE h1 h2) (.inl h3) (remove_len y.e (out0 h1.e))).1
    generalize (y.setE y.e.remove.1).links y.e.remove.2.1 = z at *
    exact ⟨h4.e, h4.u, fits_new, keys_sub h4.k List.filter_sublist⟩
theorem fit_tt_new (cf : Tcf) (d : Dr) : (newTt cf d).Fit := ⟨fit_new _ _, ⟨by show (0 : Int) ≤ 0; decide, by show (0 : Int) ≤ max 1 (min cf.n202 32); omega, by show (1 : Int) ≤ max 1 (min cf.n202 32); omega, by show max 1 (min cf.n202 32) ≤ 32; omega, .inl rfl⟩, fits_new, keys_nil⟩
end
end Go.Proofs.YtnnahljdhdippaaGreatDoor
