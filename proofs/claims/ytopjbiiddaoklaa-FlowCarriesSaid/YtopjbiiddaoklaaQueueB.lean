/- The queue, further: its list, and a nil queue. -/
import Derived.Test.YtopjbiiddaoklaaQueue
namespace Go.Proofs.Ytopjbiiddaoklaa
open Go.RowKit

theorem strs_one (l : List ByteArray) : ∀ u ∈ strs l, u.oneCell' = true := by
  intro u hu
  obtain ⟨s, _, rfl⟩ := List.mem_map.1 hu
  rfl

set_option maxHeartbeats 800000 in
theorem clone_strs (lv : Value) (l : List ByteArray) (hl : l.length ≤ 65536) (w0 w : World) (R : HP) (hs : St w0 w (Row 9 1 lv l.length (strs l) * R)) :
    Calls Try.prog 47 #[lv] w fun e w' => ∃ v, e = .returned v ∧ St w0 w' (Row 9 1 v l.length (strs l) * (Row 9 1 lv l.length (strs l) * R)) := by
  obtain ⟨a, cap, rfl, hc1, hc2⟩ := hs.row_shape
  obtain ⟨i0, hi, hz0, hz1, hz2⟩ := info_parts infoStr
  have hnil := fun w => Lib.run_eql_slice_nil (P := Try.prog) w 36 9 a l.length cap 0 0 Try.underlying36
  by_cases h0 : l.length = 0
  · have e0 : l = [] := List.eq_nil_of_length_eq_zero h0
    subst e0
    cases a with
    | none =>
      simp only [Option.isNone_none, List.length_nil] at hnil
      go_enter Try.func47, Try.ntmps47
      go_wp2
      go_ret
      exact ⟨_, rfl, hs.row_nil 9 1⟩
    | some ad =>
      simp only [Option.isNone_some, List.length_nil] at hnil
      have hap := fun (wx : World) (b : Option Addr) => run_append_none (P := Try.prog) (ty := 36) wx Try.underlying36 hi b (some ad) 0 0 cap (Nat.le_refl _)
      go_enter Try.func47, Try.ntmps47
      go_wp2
      go_ret
      exact ⟨_, rfl, (hs.alloc (.cells #[] 9)).drop.row_nil 9 1 (some ⟨w.heap.size, 0, none⟩)⟩
  rcases hs.row with ⟨_, e0, e1, _⟩ | ⟨g, off, cap', cur, e0, b1, b2, b3, b4, hr⟩
  · omega
  simp only [Value.slice.injEq] at e0
  obtain ⟨rfl, _, rfl⟩ := e0
  have h2 := ((hs.alloc (.cells #[] 9)).drop.row_nil 9 1 (some ⟨w.heap.size, 0, none⟩))
  have hg := hr.lt
  have H2 := Lib.hid h2
  have H4 := Lib.hid b4
  have Hr := Lib.hid hr
  clear h2 b4 hr
  simp only [Option.isNone_some] at hnil
  go_enter Try.func47, Try.ntmps47
  go_wp2_with (at_builtin; refine wpList_append_row rfl (.tmp 5) (.tmp 6) 36 rfl H2.out Try.underlying36 hi hz0 hz1 hz2 rfl (by decide) rfl ⟨g, off, none⟩ l.length cap (strs l) rfl ?c0 ?c6 ?c1 ?c2 ?c3 ?c4 ?c5)
  case c0 => omega
  case c6 => simp
  case c1 =>
    intro j u hj
    have := (List.getElem?_eq_some_iff.1 hj).1
    simp at this
    rw [add_none, World.cell?_alloc_past _ _ _ (by assumption), Hr.out.cell, H4.out j (by omega)]
    exact hj
  case c2 => exact strs_one l
  case c3 => unfold maxLen; omega
  case c4 => omega
  case c5 =>
    intro g off cap1 w1 h3
    go_wp2
    go_ret
    exact ⟨_, rfl, h3⟩

theorem Q.Ok.len {q : Q} (ok : q.Ok) : q.l.length ≤ 65536 := by obtain ⟨_, _, _, _⟩ := ok; omega

theorem q_list (p : Nat) (q : Q) (w0 w : World) (R : HP) (h : St w0 w (QAt 78 p q * R)) (ok : q.Ok) :
    Calls Try.prog 23 #[ptr p] w fun e w' => ∃ v, e = .returned v ∧ St w0 w' (Row 9 1 v q.l.length (strs q.l) * (QAt 78 p q * R)) := by
  obtain ⟨lv, h1⟩ := h.q_open
  have c := h1.cell
  go_enter Try.func23, Try.ntmps23
  go_wp2_with fail
  refine (clone_strs lv q.l ok.len w0 _ _ (h1.eq (star_left_comm _ _ _))).mono ?_
  rintro e w1 ⟨v, rfl, h2⟩
  go_wp2
  go_ret
  refine ⟨v, rfl, ?_⟩
  have h3 := h2.eq (show _ = blk p _ * (Row _ _ _ _ _ * (Row 9 1 v q.l.length (strs q.l) * R)) by ac_rfl)
  exact (h3.q_shut rfl rfl rfl rfl).eq (star_left_comm _ _ _)

/-! A nil queue. -/
theorem q_nil_take (w : World) : Calls Try.prog 19 #[.pointer none] w fun e w' => e = .returned (.tuple #[.string ⟨#[]⟩, .bool false]) ∧ w = w' := by
  go_enter Try.func19, Try.ntmps19
  go_wp2_with fail
  have : Calls Try.prog 21 #[.pointer none] w fun e w' => e = .returned (.int .i64 0) ∧ w = w' := by
    go_enter Try.func21, Try.ntmps21
    go_wp2
    go_ret
    exact ⟨rfl, rfl⟩
  refine this.mono ?_
  rintro e w1 ⟨rfl, rfl⟩
  go_wp2
  go_ret2
  exact ⟨rfl, rfl⟩

theorem q_nil_left (w : World) : Calls Try.prog 21 #[.pointer none] w fun e w' => e = .returned (.int .i64 0) ∧ w = w' := by
  go_enter Try.func21, Try.ntmps21
  go_wp2
  go_ret
  exact ⟨rfl, rfl⟩

theorem q_nil_sent (w : World) : Calls Try.prog 20 #[.pointer none] w fun e w' => e = .returned (.int .i64 0) ∧ w = w' := by
  go_enter Try.func20, Try.ntmps20
  go_wp2
  go_ret
  exact ⟨rfl, rfl⟩

theorem q_nil_clear (w : World) : Calls Try.prog 28 #[.pointer none] w fun e w' => e = .returned (.int .i64 0) ∧ w = w' := by
  go_enter Try.func28, Try.ntmps28
  go_wp2
  go_ret
  exact ⟨rfl, rfl⟩

theorem q_nil_list (w : World) : Calls Try.prog 23 #[.pointer none] w fun e w' => e = .returned (.slice none 0 0) ∧ w = w' := by
  go_enter Try.func23, Try.ntmps23
  go_wp2
  go_ret
  exact ⟨rfl, rfl⟩

theorem q_nil_push (s : ByteArray) (w : World) : Calls Try.prog 16 #[.pointer none, .string s] w fun e w' => e = .returned (.int .i64 1) ∧ w = w' := by
  go_enter Try.func16, Try.ntmps16
  go_wp2
  go_ret
  exact ⟨rfl, rfl⟩

theorem q_nil_done (n : Int) (w : World) : Calls Try.prog 17 #[.pointer none, .int .i64 n] w fun e w' => e = .returned (.bool false) ∧ w = w' := by
  go_enter Try.func17, Try.ntmps17
  go_wp2
  go_ret
  exact ⟨rfl, rfl⟩

theorem q_nil_back (n : Int) (w : World) : Calls Try.prog 18 #[.pointer none, .int .i64 n] w fun e w' => e = .returned (.bool false) ∧ w = w' := by
  go_enter Try.func18, Try.ntmps18
  go_wp2
  go_ret
  exact ⟨rfl, rfl⟩

/-! What the calls keep. -/
theorem Q.Ok.push {q : Q} (ok : q.Ok) (s : ByteArray) : (q.push s).1.Ok := by
  obtain ⟨_, _, _, _⟩ := id ok
  unfold Q.push
  split
  · exact ok
  · split
    · exact ok
    · exact ⟨by assumption, by assumption, by simp only [List.length_append, List.length_singleton]; omega, by simp only [List.length_append, List.length_singleton]; omega⟩
theorem Q.Ok.take {q : Q} (ok : q.Ok) : q.take.1.Ok := by
  obtain ⟨_, _, _, _⟩ := id ok
  unfold Q.take
  split
  · exact ⟨by assumption, by assumption, by assumption, by simp only []; omega⟩
  · exact ok
theorem Q.Ok.back {q : Q} (ok : q.Ok) (n : Int) : (q.back n).1.Ok := by
  obtain ⟨_, _, _, _⟩ := id ok
  unfold Q.back
  split
  · exact ok
  · exact ⟨by assumption, by assumption, by assumption, by simp only []; omega⟩
theorem Q.Ok.done {q : Q} (ok : q.Ok) (n : Int) : (q.done n).1.Ok := by
  obtain ⟨_, _, _, _⟩ := id ok
  unfold Q.done
  split
  · exact ok
  · exact ⟨by assumption, by assumption, by simp only [List.length_drop]; omega, by simp only [List.length_drop]; omega⟩
theorem Q.Ok.new (n : Int) : Q.Ok ⟨(max 1 (min n 256)).toNat, [], 0⟩ := ⟨by simp only []; omega, by simp only []; omega, by simp, by simp⟩
theorem Q.Ok.clear {q : Q} (ok : q.Ok) : Q.Ok ⟨q.most, [], 0⟩ := ⟨ok.m1, ok.m2, by simp, by simp⟩

/-! The same, the outcome named. -/
theorem q_push_to {p : Nat} {q q' : Q} {s : ByteArray} {r : Int} {w0 w : World} {R : HP} (h : St w0 w (QAt 78 p q * R)) (ok : q.Ok) (e : q.push s = (q', r)) :
    Calls Try.prog 16 #[ptr p, .string s] w fun e w' => e = .returned (.int .i64 r) ∧ St w0 w' (QAt 78 p q' * R) := by
  have := q_push p q s w0 w R h ok
  rw [e] at this
  exact this
theorem q_take_to {p : Nat} {q q' : Q} {s : ByteArray} {b : Bool} {w0 w : World} {R : HP} (h : St w0 w (QAt 78 p q * R)) (ok : q.Ok) (e : q.take = (q', s, b)) :
    Calls Try.prog 19 #[ptr p] w fun e w' => e = .returned (.tuple #[.string s, .bool b]) ∧ St w0 w' (QAt 78 p q' * R) := by
  have := q_take p q w0 w R h ok
  rw [e] at this
  exact this
theorem q_done_to {p : Nat} {q q' : Q} {n : Int} {b : Bool} {w0 w : World} {R : HP} (h : St w0 w (QAt 78 p q * R)) (ok : q.Ok) (e : q.done n = (q', b)) :
    Calls Try.prog 17 #[ptr p, .int .i64 n] w fun e w' => e = .returned (.bool b) ∧ St w0 w' (QAt 78 p q' * R) := by
  have := q_done p q n w0 w R h ok
  rw [e] at this
  exact this
theorem q_back_to {p : Nat} {q q' : Q} {n : Int} {b : Bool} {w0 w : World} {R : HP} (h : St w0 w (QAt 78 p q * R)) (e : q.back n = (q', b)) :
    Calls Try.prog 18 #[ptr p, .int .i64 n] w fun e w' => e = .returned (.bool b) ∧ St w0 w' (QAt 78 p q' * R) := by
  have := q_back p q n w0 w R h
  rw [e] at this
  exact this

end Go.Proofs.Ytopjbiiddaoklaa
