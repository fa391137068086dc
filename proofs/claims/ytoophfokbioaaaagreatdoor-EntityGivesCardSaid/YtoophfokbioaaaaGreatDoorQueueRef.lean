/- The queue, further: its list, and a nil queue. The reference's queue does what the queue does. -/
import Derived.Test.YtoophfokbioaaaaGreatDoorQueue
namespace Go.Proofs.YtoophfokbioaaaaGreatDoor
open Go.RowKit
set_option maxRecDepth 100000

theorem strs_one (l : List ByteArray) : ∀ u ∈ strs l, u.oneCell' = true := by
  intro u hu
  obtain ⟨s, _, rfl⟩ := List.mem_map.1 hu
  rfl

theorem Q.Ok.len {q : Q} (ok : q.Ok) : q.l.length ≤ 65536 := by obtain ⟨_, _, _, _⟩ := ok; omega

/-! A nil queue. -/
theorem q_nil_take (w : World) : Calls Tryz.prog 136 #[.pointer none] w fun e w' => e = .returned (.tuple #[.string ⟨#[]⟩, .bool false]) ∧ w = w' := by
  go_enter Tryz.func136, Tryz.ntmps136
  go_wp2_with fail
  have : Calls Tryz.prog 81 #[.pointer none] w fun e w' => e = .returned (.int .i64 0) ∧ w = w' := by
    go_enter Tryz.func81, Tryz.ntmps81
    go_wp2
    go_ret
    exact ⟨rfl, rfl⟩
  refine this.mono ?_
  rintro e w1 ⟨rfl, rfl⟩
  go_wp2
  go_ret2
  exact ⟨rfl, rfl⟩

theorem q_nil_left (w : World) : Calls Tryz.prog 81 #[.pointer none] w fun e w' => e = .returned (.int .i64 0) ∧ w = w' := by
  go_enter Tryz.func81, Tryz.ntmps81
  go_wp2
  go_ret
  exact ⟨rfl, rfl⟩

theorem q_nil_sent (w : World) : Calls Tryz.prog 80 #[.pointer none] w fun e w' => e = .returned (.int .i64 0) ∧ w = w' := by
  go_enter Tryz.func80, Tryz.ntmps80
  go_wp2
  go_ret
  exact ⟨rfl, rfl⟩

theorem q_nil_clear (w : World) : Calls Tryz.prog 117 #[.pointer none] w fun e w' => e = .returned (.int .i64 0) ∧ w = w' := by
  go_enter Tryz.func117, Tryz.ntmps117
  go_wp2
  go_ret
  exact ⟨rfl, rfl⟩

theorem q_nil_push (s : ByteArray) (w : World) : Calls Tryz.prog 118 #[.pointer none, .string s] w fun e w' => e = .returned (.int .i64 1) ∧ w = w' := by
  go_enter Tryz.func118, Tryz.ntmps118
  go_wp2
  go_ret
  exact ⟨rfl, rfl⟩

theorem q_nil_done (n : Int) (w : World) : Calls Tryz.prog 142 #[.pointer none, .int .i64 n] w fun e w' => e = .returned (.bool false) ∧ w = w' := by
  go_enter Tryz.func142, Tryz.ntmps142
  go_wp2
  go_ret
  exact ⟨rfl, rfl⟩

theorem q_nil_back (n : Int) (w : World) : Calls Tryz.prog 138 #[.pointer none, .int .i64 n] w fun e w' => e = .returned (.bool false) ∧ w = w' := by
  go_enter Tryz.func138, Tryz.ntmps138
  go_wp2
  go_ret
  exact ⟨rfl, rfl⟩

/-! What the calls keep. -/
theorem Q.Ok.push {q : Q} (ok : q.Ok) (s : ByteArray) : (q.push s).1.Ok := by
  obtain ⟨_, _, _, _⟩ := id ok
  unfold Q.push
  split
  · exact ok
  · split
    · exact ok
    · exact ⟨by assumption, by assumption, by simp only [List.length_append, List.length_singleton]; omega, by simp only [List.length_append, List.length_singleton]; omega⟩
theorem Q.Ok.take {q : Q} (ok : q.Ok) : q.take.1.Ok := by
  obtain ⟨_, _, _, _⟩ := id ok
  unfold Q.take
  split
  · exact ⟨by assumption, by assumption, by assumption, by simp only []; omega⟩
  · exact ok
theorem Q.Ok.back {q : Q} (ok : q.Ok) (n : Int) : (q.back n).1.Ok := by
  obtain ⟨_, _, _, _⟩ := id ok
  unfold Q.back
  split
  · exact ok
  · exact ⟨by assumption, by assumption, by assumption, by simp only []; omega⟩
theorem Q.Ok.done {q : Q} (ok : q.Ok) (n : Int) : (q.done n).1.Ok := by
  obtain ⟨_, _, _, _⟩ := id ok
  unfold Q.done
  split
  · exact ok
  · exact ⟨by assumption, by assumption, by simp only [List.length_drop]; omega, by simp only [List.length_drop]; omega⟩
theorem Q.Ok.new (n : Int) : Q.Ok ⟨(max 1 (min n 256)).toNat, [], 0⟩ := ⟨by simp only []; omega, by simp only []; omega, by simp, by simp⟩
theorem Q.Ok.clear {q : Q} (ok : q.Ok) : Q.Ok ⟨q.most, [], 0⟩ := ⟨ok.m1, ok.m2, by simp, by simp⟩

/-! The same, the outcome named. -/
theorem q_push_to {p : Nat} {q q' : Q} {s : ByteArray} {r : Int} {w0 w : World} {R : HP} (h : St w0 w (QAt 155 p q * R)) (ok : q.Ok) (e : q.push s = (q', r)) :
    Calls Tryz.prog 118 #[ptr p, .string s] w fun e w' => e = .returned (.int .i64 r) ∧ St w0 w' (QAt 155 p q' * R) := by
  have := q_push p q s w0 w R h ok
  rw [e] at this
  exact this
theorem q_take_to {p : Nat} {q q' : Q} {s : ByteArray} {b : Bool} {w0 w : World} {R : HP} (h : St w0 w (QAt 155 p q * R)) (ok : q.Ok) (e : q.take = (q', s, b)) :
    Calls Tryz.prog 136 #[ptr p] w fun e w' => e = .returned (.tuple #[.string s, .bool b]) ∧ St w0 w' (QAt 155 p q' * R) := by
  have := q_take p q w0 w R h ok
  rw [e] at this
  exact this
theorem q_done_to {p : Nat} {q q' : Q} {n : Int} {b : Bool} {w0 w : World} {R : HP} (h : St w0 w (QAt 155 p q * R)) (ok : q.Ok) (e : q.done n = (q', b)) :
    Calls Tryz.prog 142 #[ptr p, .int .i64 n] w fun e w' => e = .returned (.bool b) ∧ St w0 w' (QAt 155 p q' * R) := by
  have := q_done p q n w0 w R h ok
  rw [e] at this
  exact this
theorem q_back_to {p : Nat} {q q' : Q} {n : Int} {b : Bool} {w0 w : World} {R : HP} (h : St w0 w (QAt 155 p q * R)) (e : q.back n = (q', b)) :
    Calls Tryz.prog 138 #[ptr p, .int .i64 n] w fun e w' => e = .returned (.bool b) ∧ St w0 w' (QAt 155 p q' * R) := by
  have := q_back p q n w0 w R h
  rw [e] at this
  exact this

end Go.Proofs.YtoophfokbioaaaaGreatDoor

namespace Go.Proofs.YtoophfokbioaaaaGreatDoor
open Go.RowKit
set_option maxRecDepth 100000

theorem r_new (n : Int) (w0 w : World) (R : HP) (hs : St w0 w R) :
    Calls Tryz.prog 59 #[.int .i64 n] w fun e w' => ∃ p, e = .returned (ptr p) ∧ St w0 w' (QAt 90 p ⟨(max 1 (min n 256)).toNat, [], 0⟩ * R) := by
  have fin : ∀ m : Int, m = max 1 (min n 256) → St w0 (w.alloc (.cells #[.int .i64 m, .slice none 0 0, .int .i64 0] 90)) (QAt 90 w.heap.size ⟨(max 1 (min n 256)).toNat, [], 0⟩ * R) := fun m hm =>
    ((hs.row_nil 9 1).alloc (.cells #[_, .slice none 0 0, .int .i64 0] 90)).q_shut (by simp only []; omega) rfl rfl rfl
  by_cases h2 : n < 1
  · go_enter Tryz.func59, Tryz.ntmps59
    go_wp2
    go_ret
    exact ⟨w.heap.size, rfl, fin _ (by omega)⟩
  by_cases h1 : 256 < n
  · go_enter Tryz.func59, Tryz.ntmps59
    go_wp2
    go_ret
    exact ⟨w.heap.size, rfl, fin _ (by omega)⟩
  · go_enter Tryz.func59, Tryz.ntmps59
    go_wp2
    go_ret
    exact ⟨w.heap.size, rfl, fin _ (by omega)⟩

set_option maxHeartbeats 800000 in
theorem r_push (p : Nat) (q : Q) (s : ByteArray) (w0 w : World) (R : HP) (h : St w0 w (QAt 90 p q * R)) (ok : q.Ok) :
    Calls Tryz.prog 108 #[ptr p, .string s] w fun e w' => e = .returned (.int .i64 (q.push s).2) ∧ St w0 w' (QAt 90 p (q.push s).1 * R) := by
  obtain ⟨lv, h1⟩ := h.q_open
  obtain ⟨_, m2, ll, _⟩ := ok
  have c := h1.cell
  have f := h1.free
  unfold Q.push
  by_cases a1 : 260 < s.size
  · rw [if_pos a1]
    go_enter Tryz.func108, Tryz.ntmps108
    go_wp2
    go_ret
    exact ⟨rfl, h⟩
  rw [if_neg a1]
  obtain ⟨a, cap, rfl, hc1, hc2⟩ := h1.drop.row_shape
  by_cases a2 : q.most ≤ q.l.length
  · rw [if_pos a2]
    have a3 : ((q.l.length : Int) == (q.most : Int)) = true := by simp; omega
    go_enter Tryz.func108, Tryz.ntmps108
    go_wp2
    go_quiet (fail)
    go_wp2
    go_ret
    exact ⟨rfl, h.drewN _⟩
  · rw [if_neg a2]
    have a3 : ((q.l.length : Int) == (q.most : Int)) = false := by simp; omega
    obtain ⟨i0, hi, hz0, hz1, hz2⟩ := info_parts infoStr
    have h2 : ∀ nq, St w0 ((w.drewN nq).alloc (.cells #[.string s] 9)) (Row 9 1 (.slice a q.l.length cap) q.l.length (strs q.l) * (blk p (.cells #[.int .i64 q.most, .slice a q.l.length cap, .int .i64 q.sent] 90 (0, 0)) * R)) :=
      fun nq => (((h1.drewN nq).alloc (.cells #[.string s] 9)).drop).eq (by ac_rfl)
    have H2 := Lib.hid h2
    clear h2
    go_enter Tryz.func108, Tryz.ntmps108
    go_wp2
    go_quiet (fail)
    go_wp2_with (at_builtin; refine wpList_append_row rfl (.tmp 22) (.tmp 24) 78 rfl (H2.out _) Tryz.underlying78 hi hz0 hz1 hz2 rfl (by decide) rfl ⟨w.heap.size, 0, none⟩ 1 1 [.string s] rfl (by decide) rfl ?c1 ?c2 ?c3 ?c4 ?c5)
    case c1 => exact one_new _ _ _ _ rfl
    case c2 => intro u hu; simp at hu; subst hu; rfl
    case c3 => unfold maxLen; omega
    case c4 => omega
    case c5 =>
      intro g off cap1 w1 h3
      have h4 := h3.eq (star_comm _ _) |>.eq (star_assoc _ _ _)
      have c := h4.cell
      have f := h4.free
      go_wp2
      go_ret
      refine ⟨rfl, ?_⟩
      have h5 := (h4.set 1 (.slice (some ⟨g, off, none⟩) (q.l.length + 1) cap1)).eq (show _ = _ * (Row _ _ _ _ _ * R) by ac_rfl)
      exact h5.q_shut rfl rfl (by simp) (by simp)

theorem r_take (p : Nat) (q : Q) (w0 w : World) (R : HP) (h : St w0 w (QAt 90 p q * R)) (ok : q.Ok) :
    Calls Tryz.prog 144 #[ptr p] w fun e w' => e = .returned (.tuple #[.string q.take.2.1, .bool q.take.2.2]) ∧ St w0 w' (QAt 90 p q.take.1 * R) := by
  obtain ⟨_, m2, ll, sl⟩ := id ok
  obtain ⟨lv, h1⟩ := h.q_open
  have c := h1.cell
  have f := h1.free
  unfold Q.take
  by_cases a1 : q.sent < q.l.length
  · rw [if_pos a1]
    have a3 : ((q.sent : Int) == (q.l.length : Int)) = false := by simp; omega
    rcases (h1.eq (star_left_comm _ _ _)).row with ⟨_, rfl, e0, _⟩ | ⟨g, off, cap, cur, rfl, b1, b2, b3, b4, hr⟩
    · omega
    have ec : w.cell? ⟨g, off + q.sent, none⟩ = some (.string (q.l.getD q.sent ⟨#[]⟩)) := by
      have := hr.cell (off + q.sent)
      rw [b4 _ (by omega)] at this
      exact this.trans (by simp [a1])
    have hgp : g ≠ p := by
      have := hr.eq (show _ = blk g _ * (blk p _ * R) by ac_rfl)
      exact this.ne
    go_enter Tryz.func144, Tryz.ntmps144
    go_wp2
    go_quiet (fail)
    go_wp2
    go_quiet (fail)
    go_wp2
    go_ret2
    refine ⟨by simp [a1], ?_⟩
    exact St.q_shut (q := { q with sent := q.sent + 1 }) ((h1.drewN _).set 2 (.int .i64 (q.sent + 1))) rfl (by simp) rfl rfl
  · rw [if_neg a1]
    have a3 : ((q.sent : Int) == (q.l.length : Int)) = true := by simp; omega
    obtain ⟨a, cap, rfl, hc1, hc2⟩ := h1.drop.row_shape
    go_enter Tryz.func144, Tryz.ntmps144
    go_wp2
    go_quiet (fail)
    go_wp2
    go_ret2
    exact ⟨rfl, h.drewN _⟩

theorem r_back (p : Nat) (q : Q) (n : Int) (w0 w : World) (R : HP) (h : St w0 w (QAt 90 p q * R)) :
    Calls Tryz.prog 146 #[ptr p, .int .i64 n] w fun e w' => e = .returned (.bool (q.back n).2) ∧ St w0 w' (QAt 90 p (q.back n).1 * R) := by
  obtain ⟨lv, h1⟩ := h.q_open
  have c := h1.cell
  have f := h1.free
  unfold Q.back
  by_cases a1 : n < 0
  · rw [if_pos (.inl a1)]
    go_enter Tryz.func146, Tryz.ntmps146
    go_wp2
    go_ret
    exact ⟨rfl, h⟩
  by_cases a2 : (q.sent : Int) < n
  · rw [if_pos (.inr a2)]
    go_enter Tryz.func146, Tryz.ntmps146
    go_wp2
    go_ret
    exact ⟨rfl, h⟩
  rw [if_neg (by omega)]
  go_enter Tryz.func146, Tryz.ntmps146
  go_wp2
  go_ret
  exact ⟨rfl, (h1.set 2 _).q_shut rfl (by simp only []; omega) rfl rfl⟩

theorem r_clear (p : Nat) (q : Q) (w0 w : World) (R : HP) (h : St w0 w (QAt 90 p q * R)) (ok : q.Ok) :
    Calls Tryz.prog 127 #[ptr p] w fun e w' => e = .returned (.int .i64 q.l.length) ∧ St w0 w' (QAt 90 p ⟨q.most, [], 0⟩ * R) := by
  obtain ⟨lv, h1⟩ := h.q_open
  obtain ⟨_, m2, ll, sl⟩ := ok
  have c := h1.cell
  have f := h1.free
  obtain ⟨a, cap, rfl, hc1, hc2⟩ := h1.drop.row_shape
  go_enter Tryz.func127, Tryz.ntmps127
  go_wp2
  go_ret
  refine ⟨rfl, ?_⟩
  exact ((h1.set 1 (.slice none 0 0)).set 2 (.int .i64 0)).row_off.q_shut rfl rfl rfl rfl

set_option maxHeartbeats 1600000 in
theorem r_done (p : Nat) (q : Q) (n : Int) (w0 w : World) (R : HP) (h : St w0 w (QAt 90 p q * R)) (ok : q.Ok) :
    Calls Tryz.prog 149 #[ptr p, .int .i64 n] w fun e w' => e = .returned (.bool (q.done n).2) ∧ St w0 w' (QAt 90 p (q.done n).1 * R) := by
  obtain ⟨_, m2, ll, sl⟩ := id ok
  obtain ⟨lv, h1⟩ := h.q_open
  have c := h1.cell
  have f := h1.free
  unfold Q.done
  by_cases a1 : n < 0
  · rw [if_pos (.inl a1)]
    go_enter Tryz.func149, Tryz.ntmps149
    go_wp2
    go_ret
    exact ⟨rfl, h⟩
  by_cases a2 : (q.sent : Int) < n
  · rw [if_pos (.inr a2)]
    go_enter Tryz.func149, Tryz.ntmps149
    go_wp2
    go_ret
    exact ⟨rfl, h⟩
  rw [if_neg (by omega)]
  obtain ⟨j, rfl⟩ := Int.eq_ofNat_of_zero_le (show 0 ≤ n by omega)
  have hj : j ≤ q.sent := by omega
  obtain ⟨a, cap, rfl, hc1, hc2⟩ := h1.drop.row_shape
  obtain ⟨i0, hi, hz0, hz1, hz2⟩ := info_parts infoStr
  clear a1 a2
  have b0 : decide ((j : Int) < 0) = false := by simp
  have b1 : decide (q.sent < j) = false := by simpa using hj
  go_enter Tryz.func149, Tryz.ntmps149
  go_wp2
  go_loopw [5, 6] (fun v i wr => ∃ k : Nat, j ≤ k ∧ k ≤ q.l.length ∧ i = .int .i64 k ∧
      St w0 wr (Row 9 1 v (k - j) (strs ((q.l.drop j).take (k - j))) * (blk p (.cells #[.int .i64 q.most, .slice a q.l.length cap, .int .i64 q.sent] 90 (0, 0)) * (Row 9 1 (.slice a q.l.length cap) q.l.length (strs q.l) * R)))) (fun _ i _ => q.l.length - (intOf i).toNat)
  case atStart => exact ⟨j, Nat.le_refl _, by omega, rfl, by simpa using h1.row_nil 9 1⟩
  case round =>
    obtain ⟨k, hk1, hk2, rfl, h2⟩ := hrel
    have h3 := h2.eq (star_left_comm _ _ _)
    clear c f
    have c := h3.cell
    have f := h3.free
    by_cases hlt : k < q.l.length
    · rcases (h2.eq (show _ = Row _ _ (.slice a q.l.length cap) _ _ * (Row _ _ u5 _ _ * (blk p _ * R)) by ac_rfl)).row with ⟨_, e0, e1, _⟩ | ⟨g, off, cap', cur, e0, b1, b2, b3, b4, hr⟩
      · omega
      simp only [Value.slice.injEq] at e0
      obtain ⟨rfl, _, rfl⟩ := e0
      have ec : wr.cell? ⟨g, off + k, none⟩ = some (.string (q.l[k])) := by
        have := hr.cell (off + k)
        rw [b4 _ (by omega)] at this
        exact this.trans (by simp [hlt])
      have h4 := (h2.alloc (.cells #[.string q.l[k]] 9)).drop
      have H4 := Lib.hid h4
      have H2 := Lib.hid h2
      have B4 := Lib.hid b4
      clear h2 h4 b4
      go_wp2_with (at_builtin; refine wpList_append_row rfl (.tmp 27) (.tmp 35) 78 rfl H4.out Tryz.underlying78 hi hz0 hz1 hz2 rfl (by decide) rfl ⟨wr.heap.size, 0, none⟩ 1 1 [.string q.l[k]] rfl (by decide) rfl ?c1 ?c2 ?c3 ?c4 ?c5)
      case c1 => exact one_new _ _ _ _ rfl
      case c2 => intro u hu; simp at hu; subst hu; rfl
      case c3 => unfold maxLen; omega
      case c4 => omega
      case c5 =>
        intro g2 off2 cap2 w1 h5
        go_wp2
        go_roundw
        case rel =>
          refine ⟨k + 1, by omega, by omega, by go_num, ?_⟩
          have e1 : k + 1 - j = (k - j) + 1 := by omega
          have e2 : (q.l.drop j).take (k - j + 1) = (q.l.drop j).take (k - j) ++ [q.l[k]] := by
            rw [List.take_succ_eq_append_getElem (by simp; omega)]
            congr 2
            simp only [List.getElem_drop]
            congr 1
            omega
          rw [e1, e2]
          simpa [strs] using h5
        case measure => simp [intOf]; omega
    · obtain rfl : k = q.l.length := by omega
      obtain ⟨av, capv, rfl, _, _⟩ := h2.row_shape
      go_wp2
      go_ret
      refine ⟨rfl, ?_⟩
      have h4 := (h3.set 1 (.slice av (q.l.length - j) capv)).set 2 (.int .i64 (q.sent - j))
      have h5 := (h4.eq (star_3 _ _ _ _)).drop
      exact h5.q_shut rfl (by simp only []; omega) (by simp) (by simp [List.take_of_length_le])

theorem r_push_to {p : Nat} {q q' : Q} {s : ByteArray} {r : Int} {w0 w : World} {R : HP} (h : St w0 w (QAt 90 p q * R)) (ok : q.Ok) (e : q.push s = (q', r)) :
    Calls Tryz.prog 108 #[ptr p, .string s] w fun e w' => e = .returned (.int .i64 r) ∧ St w0 w' (QAt 90 p q' * R) := by
  have := r_push p q s w0 w R h ok
  rw [e] at this
  exact this
end Go.Proofs.YtoophfokbioaaaaGreatDoor
