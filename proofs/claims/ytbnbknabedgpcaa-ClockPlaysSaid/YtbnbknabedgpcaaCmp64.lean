/- cmp.Compare at int64. -/
import Derived.Test.YtbnbknabedgpcaaCmp
namespace Go.Proofs.Ytbnbknabedgpcaa
open Go.RowKit
theorem nan_i64 (a : Int) (w : World) : Calls Try.prog 72 #[.int .i64 a] w fun e w' => e = .returned (.bool false) ∧ w' = w := by
  go_enter Try.func72, Try.ntmps72
  go_wp2
  go_ret
  exact ⟨by simp, rfl⟩
theorem cmp_i64 (a b : Int) (w : World) : Calls Try.prog 51 #[.int .i64 a, .int .i64 b] w fun e w' => e = .returned (.int .i64 (cmpv a b)) ∧ w' = w := by
  have hn := fun x => nan_i64 x w
  unfold cmpv
  by_cases h1 : a < b
  · rw [if_pos h1]
    go_enter Try.func51, Try.ntmps51
    go_wp2_with (go_at_call 72; refine (hn _).mono ?_; rintro e w' ⟨rfl, rfl⟩)
    go_ret
    exact ⟨rfl, rfl⟩
  · rw [if_neg h1]
    by_cases h2 : b < a
    · rw [if_pos h2]
      go_enter Try.func51, Try.ntmps51
      go_wp2_with (go_at_call 72; refine (hn _).mono ?_; rintro e w' ⟨rfl, rfl⟩)
      go_ret
      exact ⟨rfl, rfl⟩
    · rw [if_neg h2]
      go_enter Try.func51, Try.ntmps51
      go_wp2_with (go_at_call 72; refine (hn _).mono ?_; rintro e w' ⟨rfl, rfl⟩)
      go_ret
      exact ⟨rfl, rfl⟩
end Go.Proofs.Ytbnbknabedgpcaa
