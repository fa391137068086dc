/- QueueNil: the walk. -/
import Derived.Test.YtopjbiiddaoklaaWQueueWakes
namespace Go.Proofs.Ytopjbiiddaoklaa
open Go.RowKit

set_option maxHeartbeats 800000 in
theorem QueueNil.walk (a0 : ByteArray) (a1 : Int) (w : World) (_w0 : a0.size ≤ maxLen) (_w1 : (Lit.int .i64 a1).wf = true) :
    Calls Try.prog 7 #[.string a0, .int .i64 a1] w fun e w' => e = .returned (.bool true) ∧ Below w.heap.size w w' := by
  have ok0 : Q.Ok ⟨3, [], 0⟩ := ⟨by decide, by decide, by decide, by decide⟩
  have ok1 : Q.Ok ⟨3, [⟨#[120]⟩], 0⟩ := ⟨by decide, by decide, by decide, by decide⟩
  go_enter Try.func7, Try.ntmps7
  go_wp2_with fail
  refine (q_nil_take _).mono ?_
  rintro e w1 ⟨rfl, rfl⟩
  go_wp2_with fail
  refine (q_new 3 w w _ (St.start w)).mono ?_
  rintro e w2 ⟨p, rfl, h2⟩
  change St w w2 (QAt 78 p ⟨3, [], 0⟩ * Old w) at h2
  go_wp2_with fail
  refine (q_push_to (q' := ⟨3, [⟨#[120]⟩], 0⟩) (r := 0) h2 ok0 rfl).mono ?_
  rintro e w3 ⟨rfl, h3⟩
  go_wp2_with fail
  refine (q_list p _ w w3 _ h3 ok1).mono ?_
  rintro e w4 ⟨v, rfl, h4⟩
  rcases h4.row with ⟨_, _, e0, _⟩ | ⟨g, off, cap, cur, rfl, b1, b2, b3, b4, h5⟩
  · simp at e0
  go_wp2_with fail
  refine (q_wakes w w4 _ h5).mono ?_
  rintro e w5 ⟨rfl, h6⟩
  have c := h6.cell off
  have f := h6.free off
  rw [show cur[off]? = some (.string ⟨#[120]⟩) from b4 0 (by simp)] at c
  go_wp2_with fail
  have h7 := (h6.set off (.string a0)).drop
  refine (q_list p _ w _ _ h7 ok1).mono ?_
  rintro e w6 ⟨v, rfl, h8⟩
  rcases h8.row with ⟨_, _, e0, _⟩ | ⟨g2, off2, cap2, cur2, rfl, d1, d2, d3, d4, h9⟩
  · simp at e0
  have c2 := h9.cell off2
  rw [show cur2[off2]? = some (.string ⟨#[120]⟩) from d4 0 (by simp)] at c2
  go_wp2_with (first | (go_at_call 16; refine (q_nil_push _ _).mono ?_; rintro e w' ⟨rfl, rfl⟩) | (go_at_call 17; refine (q_nil_done _ _).mono ?_; rintro e w' ⟨rfl, rfl⟩) | (go_at_call 18; refine (q_nil_back _ _).mono ?_; rintro e w' ⟨rfl, rfl⟩) | (go_at_call 20; refine (q_nil_sent _).mono ?_; rintro e w' ⟨rfl, rfl⟩) | (go_at_call 21; refine (q_nil_left _).mono ?_; rintro e w' ⟨rfl, rfl⟩) | (go_at_call 28; refine (q_nil_clear _).mono ?_; rintro e w' ⟨rfl, rfl⟩) | (go_at_call 23; refine (q_nil_list _).mono ?_; rintro e w' ⟨rfl, rfl⟩))
  go_ret
  exact ⟨rfl, (h9.drop.drop).old0⟩
end Go.Proofs.Ytopjbiiddaoklaa
