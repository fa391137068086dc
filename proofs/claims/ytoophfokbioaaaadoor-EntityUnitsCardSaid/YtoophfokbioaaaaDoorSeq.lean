/- Sequence numbers modulo 128: the program's, and the reference's, which counts. -/
import Derived.Test.YtoophfokbioaaaaDoorProg
import Derived.Test.YtoophfokbioaaaaDoorSep
namespace Go.Proofs.YtoophfokbioaaaaDoor
open Go.RowKit
set_option maxRecDepth 100000

def roomOf (va vs k : Int) : Int := max 0 (max 1 (min k 127) - (vs - va) % 128)

theorem s_wrap (n : Int) (w : World) : Calls Tryd.prog 74 #[.int .i64 n] w fun e w' => e = .returned (.int .i64 (n % 128)) ∧ w = w' := by
  have hb := i64_and127 n
  go_enter Tryd.func74, Tryd.ntmps74
  go_wp2
  go_ret
  exact ⟨rfl, rfl⟩

theorem s_norm (n : Int) (w : World) : Calls Tryd.prog 70 #[.int .i64 n] w fun e w' => e = .returned (.int .i64 (n % 128)) ∧ w = w' := by
  go_enter Tryd.func70, Tryd.ntmps70
  go_wp2_with fail
  refine (s_wrap _ _).mono ?_
  rintro e w1 ⟨rfl, rfl⟩
  go_wp2
  go_ret
  exact ⟨rfl, rfl⟩

theorem s_add (a n : Int) (w : World) : Calls Tryd.prog 68 #[.int .i64 a, .int .i64 n] w fun e w' => e = .returned (.int .i64 ((a + n) % 128)) ∧ w = w' := by
  have h1 := Int.emod_nonneg a (show (128 : Int) ≠ 0 by decide)
  have h2 := Int.emod_lt_of_pos a (show (0 : Int) < 128 by decide)
  have h3 := Int.emod_nonneg n (show (128 : Int) ≠ 0 by decide)
  have h4 := Int.emod_lt_of_pos n (show (0 : Int) < 128 by decide)
  go_enter Tryd.func68, Tryd.ntmps68
  go_wp2_with fail
  refine (s_norm _ _).mono ?_
  rintro e w1 ⟨rfl, rfl⟩
  go_wp2_with fail
  refine (s_norm _ _).mono ?_
  rintro e w1 ⟨rfl, rfl⟩
  go_wp2_with fail
  refine (s_norm _ _).mono ?_
  rintro e w1 ⟨rfl, rfl⟩
  go_wp2
  go_ret
  exact ⟨congrArg (fun x => Ending.returned (.int .i64 x)) (by omega), rfl⟩

theorem s_sub (a b : Int) (w : World) : Calls Tryd.prog 72 #[.int .i64 a, .int .i64 b] w fun e w' => e = .returned (.int .i64 ((a - b) % 128)) ∧ w = w' := by
  have h1 := Int.emod_nonneg a (show (128 : Int) ≠ 0 by decide)
  have h2 := Int.emod_lt_of_pos a (show (0 : Int) < 128 by decide)
  have h3 := Int.emod_nonneg b (show (128 : Int) ≠ 0 by decide)
  have h4 := Int.emod_lt_of_pos b (show (0 : Int) < 128 by decide)
  go_enter Tryd.func72, Tryd.ntmps72
  go_wp2_with fail
  refine (s_norm _ _).mono ?_
  rintro e w1 ⟨rfl, rfl⟩
  go_wp2_with fail
  refine (s_norm _ _).mono ?_
  rintro e w1 ⟨rfl, rfl⟩
  go_wp2_with fail
  refine (s_norm _ _).mono ?_
  rintro e w1 ⟨rfl, rfl⟩
  go_wp2
  go_ret
  exact ⟨congrArg (fun x => Ending.returned (.int .i64 x)) (by omega), rfl⟩

theorem s_valid (va nr vs : Int) (w : World) : Calls Tryd.prog 71 #[.int .i64 va, .int .i64 nr, .int .i64 vs] w fun e w' => e = .returned (.bool (decide ((nr - va) % 128 ≤ (vs - va) % 128))) ∧ w = w' := by
  go_enter Tryd.func71, Tryd.ntmps71
  go_wp2_with fail
  refine (s_sub _ _ _).mono ?_
  rintro e w1 ⟨rfl, rfl⟩
  go_wp2_with fail
  refine (s_sub _ _ _).mono ?_
  rintro e w1 ⟨rfl, rfl⟩
  go_wp2
  go_ret
  exact ⟨rfl, rfl⟩

theorem s_room (va vs k : Int) (w : World) : Calls Tryd.prog 66 #[.int .i64 va, .int .i64 vs, .int .i64 k] w fun e w' => e = .returned (.int .i64 (roomOf va vs k)) ∧ w = w' := by
  have h1 := Int.emod_nonneg (vs - va) (show (128 : Int) ≠ 0 by decide)
  have h2 := Int.emod_lt_of_pos (vs - va) (show (0 : Int) < 128 by decide)
  go_enter Tryd.func66, Tryd.ntmps66
  go_wp2_with fail
  all_goals
    refine (s_sub _ _ _).mono ?_
    rintro e w1 ⟨rfl, rfl⟩
    generalize hd : (vs - va) % 128 = d at *
    have Hd := Lib.hid hd
    clear hd
    go_wp2
    all_goals
      go_ret
      exact ⟨congrArg (fun x => Ending.returned (.int .i64 x)) (by unfold roomOf; have := Hd.out; omega), rfl⟩

end Go.Proofs.YtoophfokbioaaaaDoor
