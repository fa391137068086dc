/- The flow's own example; the flow laws' scripts. -/
import Derived.Test.YtopjbiiddaoklaaFlowSame
import Derived.Test.YtopjbiiddaoklaaLaw
namespace Go.Proofs.Ytopjbiiddaoklaa
open Go.RowKit

theorem f_push_to {f : Nat} {s : Fl} {q' : Q} {d : ByteArray} {x : Int} {w0 w : World} {R : HP} (h : St w0 w (FAt TF TQ f s * R)) (ok : s.Ok) (e : s.q.push d = (q', x)) :
    Calls Try.prog 32 #[ptr f, .string d] w fun e w' => e = .returned (.int .i64 x) ∧ St w0 w' (FAt TF TQ f { s with q := q' } * R) := by
  have := f_push f s d w0 w R h ok
  rw [e] at this
  exact this
theorem f_take_to {f : Nat} {s s' : Fl} {n : Nat} {d : ByteArray} {b : Bool} {w0 w : World} {R : HP} (h : St w0 w (FAt TF TQ f s * R)) (ok : s.Ok) (e : s.take = (s', n, d, b)) :
    Calls Try.prog 34 #[ptr f] w fun e w' => e = .returned (.tuple #[.int .i64 n, .string d, .bool b]) ∧ St w0 w' (FAt TF TQ f s' * R) := by
  have := f_take f s w0 w R h ok
  rw [e] at this
  exact this
theorem f_ack_to {f : Nat} {s s' : Fl} {n x y : Int} {w0 w : World} {R : HP} (h : St w0 w (FAt TF TQ f s * R)) (ok : s.Ok) (e : s.ack n = (s', x, y)) :
    Calls Try.prog 35 #[ptr f, .int .i64 n] w fun e w' => e = .returned (.tuple #[.int .i64 x, .int .i64 y]) ∧ St w0 w' (FAt TF TQ f s' * R) := by
  have := f_ack f s n w0 w R h ok
  rw [e] at this
  exact this

abbrev da : ByteArray := ⟨#[97]⟩
abbrev db : ByteArray := ⟨#[98]⟩

set_option maxRecDepth 100000 in
theorem f_wakes (w0 w : World) (R : HP) (hs : St w0 w R) :
    Calls Try.prog 39 #[] w fun e w' => e = .returned (.bool true) ∧ St w0 w' R := by
  have ok : ∀ vs va : Nat, ∀ l : List ByteArray, ∀ n : Nat, vs < 128 → va < 128 → n ≤ 1 → n ≤ l.length → l.length ≤ 9 → (n : Int) = ((vs : Int) - va) % 128 → Fl.Ok ⟨vs, va, 0, false, false, false, 1, ⟨9, l, n⟩⟩ := fun vs va l n h1 h2 h0 h3 h4 h5 => ⟨h1, h2, by simp, ⟨by simp, by simp, h4, h3⟩, h5, by simp only []; omega⟩
  go_enter Try.func39, Try.ntmps39
  go_wp2_with fail
  refine (f_new 1 9 w0 w R hs).mono ?_
  rintro e w1 ⟨p, rfl, h1⟩
  change St w0 w1 (FAt TF TQ p ⟨0, 0, 0, false, false, false, 1, ⟨9, [], 0⟩⟩ * R) at h1
  go_wp2_with fail
  refine (f_push_to (q' := ⟨9, [da], 0⟩) (x := 0) h1 (ok _ _ _ _ (by decide) (by decide) (by decide) (by decide) (by decide) (by decide)) rfl).mono ?_
  rintro e w2 ⟨rfl, h2⟩
  go_wp2_with fail
  refine (f_push_to (q' := ⟨9, [da, db], 0⟩) (x := 0) h2 (ok _ _ _ _ (by decide) (by decide) (by decide) (by decide) (by decide) (by decide)) rfl).mono ?_
  rintro e w3 ⟨rfl, h3⟩
  go_wp2_with fail
  refine (f_take_to (s' := ⟨1, 0, 0, false, false, false, 1, ⟨9, [da, db], 1⟩⟩) (n := 0) (d := da) (b := true) h3 (ok _ _ _ _ (by decide) (by decide) (by decide) (by decide) (by decide) (by decide)) rfl).mono ?_
  rintro e w4 ⟨rfl, h4⟩
  go_wp2_with fail
  refine (f_take_to (s' := ⟨1, 0, 0, false, false, false, 1, ⟨9, [da, db], 1⟩⟩) (n := 0) (d := ⟨#[]⟩) (b := false) h4 (ok _ _ _ _ (by decide) (by decide) (by decide) (by decide) (by decide) (by decide)) rfl).mono ?_
  rintro e w5 ⟨rfl, h5⟩
  go_wp2_with fail
  refine (f_ack_to (s' := ⟨1, 1, 0, false, false, false, 1, ⟨9, [db], 0⟩⟩) (x := 1) (y := 0) h5 (ok _ _ _ _ (by decide) (by decide) (by decide) (by decide) (by decide) (by decide)) rfl).mono ?_
  rintro e w6 ⟨rfl, h6⟩
  go_wp2_with fail
  refine (f_take_to (s' := ⟨2, 1, 0, false, false, false, 1, ⟨9, [db], 1⟩⟩) (n := 1) (d := db) (b := true) h6 (ok _ _ _ _ (by decide) (by decide) (by decide) (by decide) (by decide) (by decide)) rfl).mono ?_
  rintro e w7 ⟨rfl, h7⟩
  go_wp2
  go_ret
  exact ⟨rfl, h7.drop⟩
end Go.Proofs.Ytopjbiiddaoklaa
