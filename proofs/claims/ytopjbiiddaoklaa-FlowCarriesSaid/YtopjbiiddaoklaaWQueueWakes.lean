/- The queue's own example. -/
import Derived.Test.YtopjbiiddaoklaaQueueB
namespace Go.Proofs.Ytopjbiiddaoklaa
open Go.RowKit

abbrev sa : ByteArray := ⟨#[97]⟩
abbrev sb : ByteArray := ⟨#[98]⟩
abbrev sc : ByteArray := ⟨#[99]⟩

theorem q_wakes (w0 w : World) (R : HP) (hs : St w0 w R) :
    Calls Try.prog 22 #[] w fun e w' => e = .returned (.bool true) ∧ St w0 w' R := by
  have ok : ∀ l : List ByteArray, ∀ n, n ≤ l.length → l.length ≤ 5 → Q.Ok ⟨5, l, n⟩ := fun l n h1 h2 => ⟨by simp only []; omega, by simp only []; omega, h2, h1⟩
  go_enter Try.func22, Try.ntmps22
  go_wp2_with fail
  refine (q_new 5 w0 w R hs).mono ?_
  rintro e w1 ⟨p, rfl, h1⟩
  change St w0 w1 (QAt 78 p ⟨5, [], 0⟩ * R) at h1
  go_wp2_with fail
  refine (q_push_to (q' := ⟨5, [sa], 0⟩) (r := 0) h1 (ok _ _ (by decide) (by decide)) rfl).mono ?_
  rintro e w2 ⟨rfl, h2⟩
  go_wp2_with fail
  refine (q_push_to (q' := ⟨5, [sa, sb], 0⟩) (r := 0) h2 (ok _ _ (by decide) (by decide)) rfl).mono ?_
  rintro e w3 ⟨rfl, h3⟩
  go_wp2_with fail
  refine (q_push_to (q' := ⟨5, [sa, sb, sc], 0⟩) (r := 0) h3 (ok _ _ (by decide) (by decide)) rfl).mono ?_
  rintro e w4 ⟨rfl, h4⟩
  go_wp2_with fail
  refine (q_take_to (q' := ⟨5, [sa, sb, sc], 1⟩) (s := sa) (b := true) h4 (ok _ _ (by decide) (by decide)) rfl).mono ?_
  rintro e w5 ⟨rfl, h5⟩
  go_wp2_with fail
  refine (q_take_to (q' := ⟨5, [sa, sb, sc], 2⟩) (s := sb) (b := true) h5 (ok _ _ (by decide) (by decide)) rfl).mono ?_
  rintro e w6 ⟨rfl, h6⟩
  go_wp2_with fail
  refine (q_done_to (q' := ⟨5, [sb, sc], 1⟩) (b := true) h6 (ok _ _ (by decide) (by decide)) rfl).mono ?_
  rintro e w7 ⟨rfl, h7⟩
  go_wp2_with fail
  refine (q_back_to (q' := ⟨5, [sb, sc], 0⟩) (b := true) h7 rfl).mono ?_
  rintro e w8 ⟨rfl, h8⟩
  go_wp2_with fail
  refine (q_take_to (q' := ⟨5, [sb, sc], 1⟩) (s := sb) (b := true) h8 (ok _ _ (by decide) (by decide)) rfl).mono ?_
  rintro e w9 ⟨rfl, h9⟩
  go_wp2_with fail
  refine (q_left p _ w0 _ R h9 (ok _ _ (by decide) (by decide))).mono ?_
  rintro e w10 ⟨rfl, n, rfl⟩
  go_wp2
  go_ret
  exact ⟨rfl, h9.drop.drewN n⟩
end Go.Proofs.Ytopjbiiddaoklaa
