/- The queue, further: its list, and a nil queue. The reference's queue does what the queue does. -/
import Derived.Test.YtoophfokbioaaaaDoorQueue
namespace Go.Proofs.YtoophfokbioaaaaDoor
open Go.RowKit
set_option maxRecDepth 100000

theorem strs_one (l : List ByteArray) : ∀ u ∈ strs l, u.oneCell' = true := by
  intro u hu
  obtain ⟨s, _, rfl⟩ := List.mem_map.1 hu
  rfl

theorem Q.Ok.len {q : Q} (ok : q.Ok) : q.l.length ≤ 65536 := by obtain ⟨_, _, _, _⟩ := ok; omega

/-! A nil queue. -/
theorem q_nil_take (w : World) : Calls Tryd.prog 67 #[.pointer none] w fun e w' => e = .returned (.tuple #[.string ⟨#[]⟩, .bool false]) ∧ w = w' := by
  go_enter Tryd.func67, Tryd.ntmps67
  go_wp2_with fail
  have : Calls Tryd.prog 46 #[.pointer none] w fun e w' => e = .returned (.int .i64 0) ∧ w = w' := by
    go_enter Tryd.func46, Tryd.ntmps46
    go_wp2
    go_ret
    exact ⟨rfl, rfl⟩
  refine this.mono ?_
  rintro e w1 ⟨rfl, rfl⟩
  go_wp2
  go_ret2
  exact ⟨rfl, rfl⟩

theorem q_nil_left (w : World) : Calls Tryd.prog 46 #[.pointer none] w fun e w' => e = .returned (.int .i64 0) ∧ w = w' := by
  go_enter Tryd.func46, Tryd.ntmps46
  go_wp2
  go_ret
  exact ⟨rfl, rfl⟩

theorem q_nil_sent (w : World) : Calls Tryd.prog 45 #[.pointer none] w fun e w' => e = .returned (.int .i64 0) ∧ w = w' := by
  go_enter Tryd.func45, Tryd.ntmps45
  go_wp2
  go_ret
  exact ⟨rfl, rfl⟩

theorem q_nil_clear (w : World) : Calls Tryd.prog 56 #[.pointer none] w fun e w' => e = .returned (.int .i64 0) ∧ w = w' := by
  go_enter Tryd.func56, Tryd.ntmps56
  go_wp2
  go_ret
  exact ⟨rfl, rfl⟩

theorem q_nil_push (s : ByteArray) (w : World) : Calls Tryd.prog 57 #[.pointer none, .string s] w fun e w' => e = .returned (.int .i64 1) ∧ w = w' := by
  go_enter Tryd.func57, Tryd.ntmps57
  go_wp2
  go_ret
  exact ⟨rfl, rfl⟩

theorem q_nil_done (n : Int) (w : World) : Calls Tryd.prog 73 #[.pointer none, .int .i64 n] w fun e w' => e = .returned (.bool false) ∧ w = w' := by
  go_enter Tryd.func73, Tryd.ntmps73
  go_wp2
  go_ret
  exact ⟨rfl, rfl⟩

theorem q_nil_back (n : Int) (w : World) : Calls Tryd.prog 69 #[.pointer none, .int .i64 n] w fun e w' => e = .returned (.bool false) ∧ w = w' := by
  go_enter Tryd.func69, Tryd.ntmps69
  go_wp2
  go_ret
  exact ⟨rfl, rfl⟩

/-! What the calls keep. -/
theorem Q.Ok.push {q : Q} (ok : q.Ok) (s : ByteArray) : (q.push s).1.Ok := by
  obtain ⟨_, _, _, _⟩ := id ok
  unfold Q.push
  split
  · exact ok
  · split
    · exact ok
    · exact ⟨by assumption, by assumption, by simp only [List.length_append, List.length_singleton]; omega, by simp only [List.length_append, List.length_singleton]; omega⟩
theorem Q.Ok.take {q : Q} (ok : q.Ok) : q.take.1.Ok := by
  obtain ⟨_, _, _, _⟩ := id ok
  unfold Q.take
  split
  · exact ⟨by assumption, by assumption, by assumption, by simp only []; omega⟩
  · exact ok
theorem Q.Ok.back {q : Q} (ok : q.Ok) (n : Int) : (q.back n).1.Ok := by
  obtain ⟨_, _, _, _⟩ := id ok
  unfold Q.back
  split
  · exact ok
  · exact ⟨by assumption, by assumption, by assumption, by simp only []; omega⟩
theorem Q.Ok.done {q : Q} (ok : q.Ok) (n : Int) : (q.done n).1.Ok := by
  obtain ⟨_, _, _, _⟩ := id ok
  unfold Q.done
  split
  · exact ok
  · exact ⟨by assumption, by assumption, by simp only [List.length_drop]; omega, by simp only [List.length_drop]; omega⟩
theorem Q.Ok.new (n : Int) : Q.Ok ⟨(max 1 (min n 256)).toNat, [], 0⟩ := ⟨by simp only []; omega, by simp only []; omega, by simp, by simp⟩
theorem Q.Ok.clear {q : Q} (ok : q.Ok) : Q.Ok ⟨q.most, [], 0⟩ := ⟨ok.m1, ok.m2, by simp, by simp⟩

/-! The same, the outcome named. -/
theorem q_push_to {p : Nat} {q q' : Q} {s : ByteArray} {r : Int} {w0 w : World} {R : HP} (h : St w0 w (QAt 94 p q * R)) (ok : q.Ok) (e : q.push s = (q', r)) :
    Calls Tryd.prog 57 #[ptr p, .string s] w fun e w' => e = .returned (.int .i64 r) ∧ St w0 w' (QAt 94 p q' * R) := by
  have := q_push p q s w0 w R h ok
  rw [e] at this
  exact this
theorem q_take_to {p : Nat} {q q' : Q} {s : ByteArray} {b : Bool} {w0 w : World} {R : HP} (h : St w0 w (QAt 94 p q * R)) (ok : q.Ok) (e : q.take = (q', s, b)) :
    Calls Tryd.prog 67 #[ptr p] w fun e w' => e = .returned (.tuple #[.string s, .bool b]) ∧ St w0 w' (QAt 94 p q' * R) := by
  have := q_take p q w0 w R h ok
  rw [e] at this
  exact this
theorem q_done_to {p : Nat} {q q' : Q} {n : Int} {b : Bool} {w0 w : World} {R : HP} (h : St w0 w (QAt 94 p q * R)) (ok : q.Ok) (e : q.done n = (q', b)) :
    Calls Tryd.prog 73 #[ptr p, .int .i64 n] w fun e w' => e = .returned (.bool b) ∧ St w0 w' (QAt 94 p q' * R) := by
  have := q_done p q n w0 w R h ok
  rw [e] at this
  exact this
theorem q_back_to {p : Nat} {q q' : Q} {n : Int} {b : Bool} {w0 w : World} {R : HP} (h : St w0 w (QAt 94 p q * R)) (e : q.back n = (q', b)) :
    Calls Tryd.prog 69 #[ptr p, .int .i64 n] w fun e w' => e = .returned (.bool b) ∧ St w0 w' (QAt 94 p q' * R) := by
  have := q_back p q n w0 w R h
  rw [e] at this
  exact this

end Go.Proofs.YtoophfokbioaaaaDoor

namespace Go.Proofs.YtoophfokbioaaaaDoor
open Go.RowKit
set_option maxRecDepth 100000

end Go.Proofs.YtoophfokbioaaaaDoor
