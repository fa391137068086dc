/- Sequence numbers modulo 128: the program's, and the reference's, which counts. -/
import Derived.Test.YtoophfokbioaaaaGreatDoorProg
import Derived.Test.YtoophfokbioaaaaGreatDoorSep
namespace Go.Proofs.YtoophfokbioaaaaGreatDoor
open Go.RowKit
set_option maxRecDepth 100000

def roomOf (va vs k : Int) : Int := max 0 (max 1 (min k 127) - (vs - va) % 128)

theorem s_wrap (n : Int) (w : World) : Calls Tryz.prog 150 #[.int .i64 n] w fun e w' => e = .returned (.int .i64 (n % 128)) ∧ w = w' := by
  have hb := i64_and127 n
  go_enter Tryz.func150, Tryz.ntmps150
  go_wp2
  go_ret
  exact ⟨rfl, rfl⟩

theorem s_norm (n : Int) (w : World) : Calls Tryz.prog 139 #[.int .i64 n] w fun e w' => e = .returned (.int .i64 (n % 128)) ∧ w = w' := by
  go_enter Tryz.func139, Tryz.ntmps139
  go_wp2_with fail
  refine (s_wrap _ _).mono ?_
  rintro e w1 ⟨rfl, rfl⟩
  go_wp2
  go_ret
  exact ⟨rfl, rfl⟩

theorem s_add (a n : Int) (w : World) : Calls Tryz.prog 137 #[.int .i64 a, .int .i64 n] w fun e w' => e = .returned (.int .i64 ((a + n) % 128)) ∧ w = w' := by
  have h1 := Int.emod_nonneg a (show (128 : Int) ≠ 0 by decide)
  have h2 := Int.emod_lt_of_pos a (show (0 : Int) < 128 by decide)
  have h3 := Int.emod_nonneg n (show (128 : Int) ≠ 0 by decide)
  have h4 := Int.emod_lt_of_pos n (show (0 : Int) < 128 by decide)
  go_enter Tryz.func137, Tryz.ntmps137
  go_wp2_with fail
  refine (s_norm _ _).mono ?_
  rintro e w1 ⟨rfl, rfl⟩
  go_wp2_with fail
  refine (s_norm _ _).mono ?_
  rintro e w1 ⟨rfl, rfl⟩
  go_wp2_with fail
  refine (s_norm _ _).mono ?_
  rintro e w1 ⟨rfl, rfl⟩
  go_wp2
  go_ret
  exact ⟨congrArg (fun x => Ending.returned (.int .i64 x)) (by omega), rfl⟩

theorem s_sub (a b : Int) (w : World) : Calls Tryz.prog 141 #[.int .i64 a, .int .i64 b] w fun e w' => e = .returned (.int .i64 ((a - b) % 128)) ∧ w = w' := by
  have h1 := Int.emod_nonneg a (show (128 : Int) ≠ 0 by decide)
  have h2 := Int.emod_lt_of_pos a (show (0 : Int) < 128 by decide)
  have h3 := Int.emod_nonneg b (show (128 : Int) ≠ 0 by decide)
  have h4 := Int.emod_lt_of_pos b (show (0 : Int) < 128 by decide)
  go_enter Tryz.func141, Tryz.ntmps141
  go_wp2_with fail
  refine (s_norm _ _).mono ?_
  rintro e w1 ⟨rfl, rfl⟩
  go_wp2_with fail
  refine (s_norm _ _).mono ?_
  rintro e w1 ⟨rfl, rfl⟩
  go_wp2_with fail
  refine (s_norm _ _).mono ?_
  rintro e w1 ⟨rfl, rfl⟩
  go_wp2
  go_ret
  exact ⟨congrArg (fun x => Ending.returned (.int .i64 x)) (by omega), rfl⟩

theorem s_valid (va nr vs : Int) (w : World) : Calls Tryz.prog 140 #[.int .i64 va, .int .i64 nr, .int .i64 vs] w fun e w' => e = .returned (.bool (decide ((nr - va) % 128 ≤ (vs - va) % 128))) ∧ w = w' := by
  go_enter Tryz.func140, Tryz.ntmps140
  go_wp2_with fail
  refine (s_sub _ _ _).mono ?_
  rintro e w1 ⟨rfl, rfl⟩
  go_wp2_with fail
  refine (s_sub _ _ _).mono ?_
  rintro e w1 ⟨rfl, rfl⟩
  go_wp2
  go_ret
  exact ⟨rfl, rfl⟩

theorem s_room (va vs k : Int) (w : World) : Calls Tryz.prog 135 #[.int .i64 va, .int .i64 vs, .int .i64 k] w fun e w' => e = .returned (.int .i64 (roomOf va vs k)) ∧ w = w' := by
  have h1 := Int.emod_nonneg (vs - va) (show (128 : Int) ≠ 0 by decide)
  have h2 := Int.emod_lt_of_pos (vs - va) (show (0 : Int) < 128 by decide)
  go_enter Tryz.func135, Tryz.ntmps135
  go_wp2_with fail
  all_goals
    refine (s_sub _ _ _).mono ?_
    rintro e w1 ⟨rfl, rfl⟩
    generalize hd : (vs - va) % 128 = d at *
    have Hd := Lib.hid hd
    clear hd
    go_wp2
    all_goals
      go_ret
      exact ⟨congrArg (fun x => Ending.returned (.int .i64 x)) (by unfold roomOf; have := Hd.out; omega), rfl⟩

/-! The reference's. -/
theorem t_norm (n : Int) (w : World) : Calls Tryz.prog 74 #[.int .i64 n] w fun e w' => e = .returned (.int .i64 (n % 128)) ∧ w = w' := by
  by_cases h : 0 ≤ n
  · have h1 := Int.emod_nonneg n (show (128 : Int) ≠ 0 by decide)
    go_enter Tryz.func74, Tryz.ntmps74
    go_wp2
    go_ret
    exact ⟨rfl, rfl⟩
  · have e1 : n.tmod 128 = - ((-n) % 128) := by rw [tmod_eq_if, if_neg h]
    have h1 := Int.emod_nonneg (-n) (show (128 : Int) ≠ 0 by decide)
    have h2 := Int.emod_lt_of_pos (-n) (show (0 : Int) < 128 by decide)
    by_cases hz : (-n) % 128 = 0
    · have e2 : n.tmod 128 = 0 := by omega
      have H := Lib.hid hz
      clear hz e1
      go_enter Tryz.func74, Tryz.ntmps74
      go_wp2
      go_ret
      exact ⟨congrArg (fun x => Ending.returned (.int .i64 x)) (by have := H.out; omega), rfl⟩
    · have h3 : n.tmod 128 < 0 := by omega
      have h4 : -128 < n.tmod 128 := by omega
      have H := Lib.hid e1
      clear e1
      go_enter Tryz.func74, Tryz.ntmps74
      go_wp2
      go_ret
      exact ⟨congrArg (fun x => Ending.returned (.int .i64 x)) (by have := H.out; omega), rfl⟩

theorem t_add (a n : Int) (w : World) : Calls Tryz.prog 145 #[.int .i64 a, .int .i64 n] w fun e w' => e = .returned (.int .i64 ((a + n) % 128)) ∧ w = w' := by
  obtain ⟨x, hx⟩ : ∃ x : Nat, a % 128 = x := ⟨(a % 128).toNat, by omega⟩
  obtain ⟨y, hy⟩ : ∃ y : Nat, n % 128 = y := ⟨(n % 128).toNat, by omega⟩
  have x1 : x < 128 := by omega
  have y1 : y < 128 := by omega
  have fin : (a + n) % 128 = ((x + y) % 128 : Nat) := by omega
  have Hx := Lib.hid hx
  have Hy := Lib.hid hy
  have Hf := Lib.hid fin
  clear hx hy fin
  go_enter Tryz.func145, Tryz.ntmps145
  go_wp2_with fail
  refine (t_norm _ _).mono ?_
  rintro e w1 ⟨rfl, rfl⟩
  rw [Hx.out]
  go_wp2_with fail
  refine (t_norm _ _).mono ?_
  rintro e w1 ⟨rfl, rfl⟩
  rw [Hy.out]
  go_wp2_with fail
  go_loop [5, 7] (fun v i => ∃ k : Nat, k ≤ y ∧ i = .int .i64 k ∧ v = .int .i64 ((x + k) % 128 : Nat)) (fun _ i => y - (intOf i).toNat)
  case atStart => exact ⟨0, by omega, rfl, by rw [Nat.add_zero, Nat.mod_eq_of_lt x1]⟩
  case round =>
    obtain ⟨k, hk, rfl, rfl⟩ := hrel
    by_cases hlt : k < y
    · obtain ⟨z, hz⟩ : ∃ z : Nat, (x + k) % 128 = z := ⟨_, rfl⟩
      have z1 : z < 128 := by omega
      rw [hz]
      have Hz := Lib.hid hz
      clear hz
      by_cases hw : z = 127
      · subst hw
        go_wp2
        go_round
        case rel => exact ⟨k + 1, by omega, by go_num, by have := Hz.out; congr 1; omega⟩
        case measure => simp [intOf]; omega
      · have hb : ((z : Int) + 1 == 128) = false := by simp; omega
        go_wp2
        go_round
        case rel => exact ⟨k + 1, by omega, by go_num, by have := Hz.out; congr 1; omega⟩
        case measure => simp [intOf]; omega
    · obtain rfl : k = y := by omega
      go_wp2
      go_ret
      exact ⟨congrArg (fun x => Ending.returned (.int .i64 x)) Hf.out.symm, rfl⟩

theorem t_sub (a b : Int) (w : World) : Calls Tryz.prog 148 #[.int .i64 a, .int .i64 b] w fun e w' => e = .returned (.int .i64 ((a - b) % 128)) ∧ w = w' := by
  obtain ⟨x, hx⟩ : ∃ x : Nat, a % 128 = x := ⟨(a % 128).toNat, by omega⟩
  obtain ⟨y, hy⟩ : ∃ y : Nat, b % 128 = y := ⟨(b % 128).toNat, by omega⟩
  obtain ⟨d, hd⟩ : ∃ d : Nat, (a - b) % 128 = d := ⟨((a - b) % 128).toNat, by omega⟩
  have x1 : x < 128 := by omega
  have y1 : y < 128 := by omega
  have d1 : d < 128 := by omega
  have fin : (y + d) % 128 = x := by omega
  have Hx := Lib.hid hx
  have Hy := Lib.hid hy
  have Hf := Lib.hid fin
  have Hd := Lib.hid hd
  clear hx hy fin hd
  go_enter Tryz.func148, Tryz.ntmps148
  go_wp2_with fail
  refine (t_norm _ _).mono ?_
  rintro e w1 ⟨rfl, rfl⟩
  rw [Hx.out]
  go_wp2_with fail
  refine (t_norm _ _).mono ?_
  rintro e w1 ⟨rfl, rfl⟩
  rw [Hy.out]
  go_wp2_with fail
  go_loop [6, 7] (fun v i => ∃ k : Nat, k ≤ d ∧ i = .int .i64 k ∧ v = .int .i64 ((y + k) % 128 : Nat)) (fun _ i => d - (intOf i).toNat)
  case atStart => exact ⟨0, by omega, rfl, by rw [Nat.add_zero, Nat.mod_eq_of_lt y1]⟩
  case round =>
    obtain ⟨k, hk, rfl, rfl⟩ := hrel
    by_cases hlt : k < d
    · obtain ⟨z, hz⟩ : ∃ z : Nat, (y + k) % 128 = z := ⟨_, rfl⟩
      have z1 : z < 128 := by omega
      have hne : ((z : Int) != (x : Int)) = true := by have := Hf.out; simp; omega
      rw [hz]
      have Hz := Lib.hid hz
      clear hz
      by_cases hw : z = 127
      · subst hw
        go_wp2
        go_round
        case rel => exact ⟨k + 1, by omega, by go_num, by have := Hz.out; congr 1; omega⟩
        case measure => simp [intOf]; omega
      · have hb : ((z : Int) + 1 == 128) = false := by simp; omega
        go_wp2
        go_round
        case rel => exact ⟨k + 1, by omega, by go_num, by have := Hz.out; congr 1; omega⟩
        case measure => simp [intOf]; omega
    · obtain rfl : k = d := by omega
      rw [Hf.out]
      have hne : ((x : Int) != (x : Int)) = false := by simp
      go_wp2
      go_ret
      exact ⟨congrArg (fun x => Ending.returned (.int .i64 x)) Hd.out.symm, rfl⟩

theorem t_room (va vs k : Int) (w : World) : Calls Tryz.prog 143 #[.int .i64 va, .int .i64 vs, .int .i64 k] w fun e w' => e = .returned (.int .i64 (roomOf va vs k)) ∧ w = w' := by
  have h1 := Int.emod_nonneg (vs - va) (show (128 : Int) ≠ 0 by decide)
  have h2 := Int.emod_lt_of_pos (vs - va) (show (0 : Int) < 128 by decide)
  go_enter Tryz.func143, Tryz.ntmps143
  go_wp2_with fail
  all_goals
    refine (t_sub _ _ _).mono ?_
    rintro e w1 ⟨rfl, rfl⟩
    generalize hd : (vs - va) % 128 = d at *
    have Hd := Lib.hid hd
    clear hd
    go_wp2
    all_goals
      go_ret
      exact ⟨congrArg (fun x => Ending.returned (.int .i64 x)) (by unfold roomOf; have := Hd.out; omega), rfl⟩

set_option maxRecDepth 100000 in
theorem t_valid (va nr vs : Int) (w : World) : Calls Tryz.prog 147 #[.int .i64 va, .int .i64 nr, .int .i64 vs] w fun e w' => e = .returned (.bool (decide ((nr - va) % 128 ≤ (vs - va) % 128))) ∧ w = w' := by
  obtain ⟨x, hx⟩ : ∃ x : Nat, va % 128 = x := ⟨(va % 128).toNat, by omega⟩
  obtain ⟨r, hr⟩ : ∃ r : Nat, nr % 128 = r := ⟨(nr % 128).toNat, by omega⟩
  obtain ⟨s, hs⟩ : ∃ s : Nat, vs % 128 = s := ⟨(vs % 128).toNat, by omega⟩
  obtain ⟨i, hi⟩ : ∃ i : Nat, (nr - va) % 128 = i := ⟨((nr - va) % 128).toNat, by omega⟩
  obtain ⟨j, hj⟩ : ∃ j : Nat, (vs - va) % 128 = j := ⟨((vs - va) % 128).toNat, by omega⟩
  have x1 : x < 128 := by omega
  have r1 : r < 128 := by omega
  have s1 : s < 128 := by omega
  have i1 : i < 128 := by omega
  have j1 : j < 128 := by omega
  have fi : (x + i) % 128 = r := by omega
  have fj : (x + j) % 128 = s := by omega
  rw [hi, hj]
  have Hx := Lib.hid hx
  have Hr := Lib.hid hr
  have Hs := Lib.hid hs
  have Hi := Lib.hid fi
  have Hj := Lib.hid fj
  clear hx hr hs hi hj fi fj
  go_enter Tryz.func147, Tryz.ntmps147
  go_wp2_with fail
  refine (t_norm _ _).mono ?_
  rintro e w1 ⟨rfl, rfl⟩
  rw [Hx.out]
  go_wp2_with fail
  refine (t_norm _ _).mono ?_
  rintro e w1 ⟨rfl, rfl⟩
  rw [Hr.out]
  go_wp2_with fail
  refine (t_norm _ _).mono ?_
  rintro e w1 ⟨rfl, rfl⟩
  rw [Hs.out]
  go_wp2_with fail
  go_loop [7, 10] (fun v c => ∃ k : Nat, k ≤ i ∧ k ≤ j ∧ c = .int .i64 k ∧ v = .int .i64 ((x + k) % 128 : Nat)) (fun _ c => 128 - (intOf c).toNat)
  case atStart => exact ⟨0, by omega, by omega, rfl, by rw [Nat.add_zero, Nat.mod_eq_of_lt x1]⟩
  case round =>
    obtain ⟨k, hk, hk2, rfl, rfl⟩ := hrel
    obtain ⟨z, hz⟩ : ∃ z : Nat, (x + k) % 128 = z := ⟨_, rfl⟩
    have z1 : z < 128 := by omega
    rw [hz]
    have Hz := Lib.hid hz
    clear hz
    by_cases ei : k = i
    · have ez : z = r := by have := Hz.out; have := Hi.out; omega
      have hb : ((z : Int) == (r : Int)) = true := by simp; omega
      clear ez
      go_wp2
      go_ret
      exact ⟨congrArg (fun x => Ending.returned (.bool x)) (by simp; omega), rfl⟩
    · have hb : ((z : Int) == (r : Int)) = false := by have := Hz.out; have := Hi.out; simp; omega
      by_cases ej : k = j
      · have hb2 : ((z : Int) == (s : Int)) = true := by have := Hz.out; have := Hj.out; simp; omega
        go_wp2
        go_ret
        exact ⟨congrArg (fun x => Ending.returned (.bool x)) (by simp; omega), rfl⟩
      · have hb2 : ((z : Int) == (s : Int)) = false := by have := Hz.out; have := Hj.out; simp; omega
        go_wp2_with fail
        refine (t_add _ _ _).mono ?_
        rintro e w1 ⟨rfl, rfl⟩
        go_wp2
        go_round
        case rel => exact ⟨k + 1, by omega, by omega, by go_num, congrArg (Value.int .i64) (by have := Hz.out; omega)⟩
        case measure => simp [intOf]; omega
end Go.Proofs.YtoophfokbioaaaaGreatDoor
