/- The queue, further: its list, and a nil queue. The reference's queue does what the queue does. Sequence numbers modulo 128: the program's, and the reference's, which counts. The flow: what each of its calls does to it. -/
import Derived.Test.YtnnahljdhdippaaGreatDoorB3
import Derived.Test.YtnnahljdhdippaaGreatDoorProg
import Derived.Test.YtnnahljdhdippaaGreatDoorB1
namespace Go.Proofs.YtnnahljdhdippaaGreatDoor
open Go.RowKit
set_option maxRecDepth 100000

theorem strs_one (l : List ByteArray) : ∀ u ∈ strs l, u.oneCell' = true := by
  intro u hu
  obtain ⟨s, _, rfl⟩ := List.mem_map.1 hu
  rfl

theorem Q.Ok.len {q : Q} (ok : q.Ok) : q.l.length ≤ 65536 := by obtain ⟨_, _, _, _⟩ := ok; omega

/-! A nil queue. -/
theorem q_nil_take (w : World) : Calls Tryz.prog 256 #[.pointer none] w fun e w' => e = .returned (.tuple #[.string ⟨#[]⟩, .bool false]) ∧ w = w' := by
  go_enter Tryz.func256, Tryz.ntmps256
  go_wp2_with fail
  have : Calls Tryz.prog 152 #[.pointer none] w fun e w' => e = .returned (.int .i64 0) ∧ w = w' := by
    go_enter Tryz.func152, Tryz.ntmps152
    go_wp2
    go_ret
    exact ⟨rfl, rfl⟩
  refine this.mono ?_
  rintro e w1 ⟨rfl, rfl⟩
  go_wp2
  go_ret2
  exact ⟨rfl, rfl⟩

theorem q_nil_left (w : World) : Calls Tryz.prog 152 #[.pointer none] w fun e w' => e = .returned (.int .i64 0) ∧ w = w' := by
  go_enter Tryz.func152, Tryz.ntmps152
  go_wp2
  go_ret
  exact ⟨rfl, rfl⟩

theorem q_nil_sent (w : World) : Calls Tryz.prog 151 #[.pointer none] w fun e w' => e = .returned (.int .i64 0) ∧ w = w' := by
  go_enter Tryz.func151, Tryz.ntmps151
  go_wp2
  go_ret
  exact ⟨rfl, rfl⟩

theorem q_nil_clear (w : World) : Calls Tryz.prog 223 #[.pointer none] w fun e w' => e = .returned (.int .i64 0) ∧ w = w' := by
  go_enter Tryz.func223, Tryz.ntmps223
  go_wp2
  go_ret
  exact ⟨rfl, rfl⟩

theorem q_nil_push (s : ByteArray) (w : World) : Calls Tryz.prog 224 #[.pointer none, .string s] w fun e w' => e = .returned (.int .i64 1) ∧ w = w' := by
  go_enter Tryz.func224, Tryz.ntmps224
  go_wp2
  go_ret
  exact ⟨rfl, rfl⟩

theorem q_nil_done (n : Int) (w : World) : Calls Tryz.prog 286 #[.pointer none, .int .i64 n] w fun e w' => e = .returned (.bool false) ∧ w = w' := by
  go_enter Tryz.func286, Tryz.ntmps286
  go_wp2
  go_ret
  exact ⟨rfl, rfl⟩

theorem q_nil_back (n : Int) (w : World) : Calls Tryz.prog 284 #[.pointer none, .int .i64 n] w fun e w' => e = .returned (.bool false) ∧ w = w' := by
  go_enter Tryz.func284, Tryz.ntmps284
  go_wp2
  go_ret
  exact ⟨rfl, rfl⟩

/-! What the calls keep. -/
theorem Q.Ok.push {q : Q} (ok : q.Ok) (s : ByteArray) : (q.push s).1.Ok := by
  obtain ⟨_, _, _, _⟩ := id ok
  unfold Q.push
  split
  · exact ok
  · split
    · exact ok
    · exact ⟨by assumption, by assumption, by simp only [List.length_append, List.length_singleton]; omega, by simp only [List.length_append, List.length_singleton]; omega⟩
theorem Q.Ok.take {q : Q} (ok : q.Ok) : q.take.1.Ok := by
  obtain ⟨_, _, _, _⟩ := id ok
  unfold Q.take
  split
  · exact ⟨by assumption, by assumption, by assumption, by simp only []; omega⟩
  · exact ok
theorem Q.Ok.back {q : Q} (ok : q.Ok) (n : Int) : (q.back n).1.Ok := by
  obtain ⟨_, _, _, _⟩ := id ok
  unfold Q.back
  split
  · exact ok
  · exact ⟨by assumption, by assumption, by assumption, by simp only []; omega⟩
theorem Q.Ok.done {q : Q} (ok : q.Ok) (n : Int) : (q.done n).1.Ok := by
  obtain ⟨_, _, _, _⟩ := id ok
  unfold Q.done
  split
  · exact ok
  · exact ⟨by assumption, by assumption, by simp only [List.length_drop]; omega, by simp only [List.length_drop]; omega⟩
theorem Q.Ok.new (n : Int) : Q.Ok ⟨(max 1 (min n 256)).toNat, [], 0⟩ := ⟨by simp only []; omega, by simp only []; omega, by simp, by simp⟩
theorem Q.Ok.clear {q : Q} (ok : q.Ok) : Q.Ok ⟨q.most, [], 0⟩ := ⟨ok.m1, ok.m2, by simp, by simp⟩

/-! The same, the outcome named. -/
theorem q_push_to {p : Nat} {q q' : Q} {s : ByteArray} {r : Int} {w0 w : World} {R : HP} (h : St w0 w (QAt 333 p q * R)) (ok : q.Ok) (e : q.push s = (q', r)) :
    Calls Tryz.prog 224 #[ptr p, .string s] w fun e w' => e = .returned (.int .i64 r) ∧ St w0 w' (QAt 333 p q' * R) := by
  have := q_push p q s w0 w R h ok
  rw [e] at this
  exact this
theorem q_take_to {p : Nat} {q q' : Q} {s : ByteArray} {b : Bool} {w0 w : World} {R : HP} (h : St w0 w (QAt 333 p q * R)) (ok : q.Ok) (e : q.take = (q', s, b)) :
    Calls Tryz.prog 256 #[ptr p] w fun e w' => e = .returned (.tuple #[.string s, .bool b]) ∧ St w0 w' (QAt 333 p q' * R) := by
  have := q_take p q w0 w R h ok
  rw [e] at this
  exact this
theorem q_done_to {p : Nat} {q q' : Q} {n : Int} {b : Bool} {w0 w : World} {R : HP} (h : St w0 w (QAt 333 p q * R)) (ok : q.Ok) (e : q.done n = (q', b)) :
    Calls Tryz.prog 286 #[ptr p, .int .i64 n] w fun e w' => e = .returned (.bool b) ∧ St w0 w' (QAt 333 p q' * R) := by
  have := q_done p q n w0 w R h ok
  rw [e] at this
  exact this
theorem q_back_to {p : Nat} {q q' : Q} {n : Int} {b : Bool} {w0 w : World} {R : HP} (h : St w0 w (QAt 333 p q * R)) (e : q.back n = (q', b)) :
    Calls Tryz.prog 284 #[ptr p, .int .i64 n] w fun e w' => e = .returned (.bool b) ∧ St w0 w' (QAt 333 p q' * R) := by
  have := q_back p q n w0 w R h
  rw [e] at this
  exact this

end Go.Proofs.YtnnahljdhdippaaGreatDoor

namespace Go.Proofs.YtnnahljdhdippaaGreatDoor
open Go.RowKit
set_option maxRecDepth 100000

theorem r_new (n : Int) (w0 w : World) (R : HP) (hs : St w0 w R) :
    Calls Tryz.prog 144 #[.int .i64 n] w fun e w' => ∃ p, e = .returned (ptr p) ∧ St w0 w' (QAt 199 p ⟨(max 1 (min n 256)).toNat, [], 0⟩ * R) := by
  have fin : ∀ m : Int, m = max 1 (min n 256) → St w0 (w.alloc (.cells #[.int .i64 m, .slice none 0 0, .int .i64 0] 199)) (QAt 199 w.heap.size ⟨(max 1 (min n 256)).toNat, [], 0⟩ * R) := fun m hm =>
    ((hs.row_nil 9 1).alloc (.cells #[_, .slice none 0 0, .int .i64 0] 199)).q_shut (by simp only []; omega) rfl rfl rfl
  by_cases h2 : n < 1
  · go_enter Tryz.func144, Tryz.ntmps144
    go_wp2
    go_ret
    exact ⟨w.heap.size, rfl, fin _ (by omega)⟩
  by_cases h1 : 256 < n
  · go_enter Tryz.func144, Tryz.ntmps144
    go_wp2
    go_ret
    exact ⟨w.heap.size, rfl, fin _ (by omega)⟩
  · go_enter Tryz.func144, Tryz.ntmps144
    go_wp2
    go_ret
    exact ⟨w.heap.size, rfl, fin _ (by omega)⟩

set_option maxHeartbeats 800000 in
theorem r_push (p : Nat) (q : Q) (s : ByteArray) (w0 w : World) (R : HP) (h : St w0 w (QAt 199 p q * R)) (ok : q.Ok) :
    Calls Tryz.prog 172 #[ptr p, .string s] w fun e w' => e = .returned (.int .i64 (q.push s).2) ∧ St w0 w' (QAt 199 p (q.push s).1 * R) := by
  obtain ⟨lv, h1⟩ := h.q_open
  obtain ⟨_, m2, ll, _⟩ := ok
  have c := h1.cell
  have f := h1.free
  unfold Q.push
  by_cases a1 : 260 < s.size
  · rw [if_pos a1]
    go_enter Tryz.func172, Tryz.ntmps172
    go_wp2
    go_ret
    exact ⟨rfl, h⟩
  rw [if_neg a1]
  obtain ⟨a, cap, rfl, hc1, hc2⟩ := h1.drop.row_shape
  by_cases a2 : q.most ≤ q.l.length
  · rw [if_pos a2]
    have a3 : ((q.l.length : Int) == (q.most : Int)) = true := by simp; omega
    go_enter Tryz.func172, Tryz.ntmps172
    go_wp2
    go_quiet (fail)
    go_wp2
    go_ret
    exact ⟨rfl, h.drewN _⟩
  · rw [if_neg a2]
    have a3 : ((q.l.length : Int) == (q.most : Int)) = false := by simp; omega
    obtain ⟨i0, hi, hz0, hz1, hz2⟩ := info_parts infoStr
    have h2 : ∀ nq, St w0 ((w.drewN nq).alloc (.cells #[.string s] 9)) (Row 9 1 (.slice a q.l.length cap) q.l.length (strs q.l) * (blk p (.cells #[.int .i64 q.most, .slice a q.l.length cap, .int .i64 q.sent] 199 (0, 0)) * R)) :=
      fun nq => (((h1.drewN nq).alloc (.cells #[.string s] 9)).drop).eq (by ac_rfl)
    have H2 := Lib.hid h2
    clear h2
    go_enter Tryz.func172, Tryz.ntmps172
    go_wp2
    go_quiet (fail)
    go_wp2_with (at_builtin; refine wpList_append_row rfl (.tmp 22) (.tmp 24) 51 rfl (H2.out _) Tryz.underlying51 hi hz0 hz1 hz2 rfl (by decide) rfl ⟨w.heap.size, 0, none⟩ 1 1 [.string s] rfl (by decide) rfl ?c1 ?c2 ?c3 ?c4 ?c5)
    case c1 => exact one_new _ _ _ _ rfl
    case c2 => intro u hu; simp at hu; subst hu; rfl
    case c3 => unfold maxLen; omega
    case c4 => omega
    case c5 =>
      intro g off cap1 w1 h3
      have h4 := h3.eq (star_comm _ _) |>.eq (star_assoc _ _ _)
      have c := h4.cell
      have f := h4.free
      go_wp2
      go_ret
      refine ⟨rfl, ?_⟩
      have h5 := (h4.set 1 (.slice (some ⟨g, off, none⟩) (q.l.length + 1) cap1)).eq (show _ = _ * (Row _ _ _ _ _ * R) by ac_rfl)
      exact h5.q_shut rfl rfl (by simp) (by simp)

theorem r_take (p : Nat) (q : Q) (w0 w : World) (R : HP) (h : St w0 w (QAt 199 p q * R)) (ok : q.Ok) :
    Calls Tryz.prog 259 #[ptr p] w fun e w' => e = .returned (.tuple #[.string q.take.2.1, .bool q.take.2.2]) ∧ St w0 w' (QAt 199 p q.take.1 * R) := by
  obtain ⟨_, m2, ll, sl⟩ := id ok
  obtain ⟨lv, h1⟩ := h.q_open
  have c := h1.cell
  have f := h1.free
  unfold Q.take
  by_cases a1 : q.sent < q.l.length
  · rw [if_pos a1]
    have a3 : ((q.sent : Int) == (q.l.length : Int)) = false := by simp; omega
    rcases (h1.eq (star_left_comm _ _ _)).row with ⟨_, rfl, e0, _⟩ | ⟨g, off, cap, cur, rfl, b1, b2, b3, b4, hr⟩
    · omega
    have ec : w.cell? ⟨g, off + q.sent, none⟩ = some (.string (q.l.getD q.sent ⟨#[]⟩)) := by
      have := hr.cell (off + q.sent)
      rw [b4 _ (by omega)] at this
      exact this.trans (by simp [a1])
    have hgp : g ≠ p := by
      have := hr.eq (show _ = blk g _ * (blk p _ * R) by ac_rfl)
      exact this.ne
    go_enter Tryz.func259, Tryz.ntmps259
    go_wp2
    go_quiet (fail)
    go_wp2
    go_quiet (fail)
    go_wp2
    go_ret2
    refine ⟨by simp [a1], ?_⟩
    exact St.q_shut (q := { q with sent := q.sent + 1 }) ((h1.drewN _).set 2 (.int .i64 (q.sent + 1))) rfl (by simp) rfl rfl
  · rw [if_neg a1]
    have a3 : ((q.sent : Int) == (q.l.length : Int)) = true := by simp; omega
    obtain ⟨a, cap, rfl, hc1, hc2⟩ := h1.drop.row_shape
    go_enter Tryz.func259, Tryz.ntmps259
    go_wp2
    go_quiet (fail)
    go_wp2
    go_ret2
    exact ⟨rfl, h.drewN _⟩

theorem r_back (p : Nat) (q : Q) (n : Int) (w0 w : World) (R : HP) (h : St w0 w (QAt 199 p q * R)) :
    Calls Tryz.prog 287 #[ptr p, .int .i64 n] w fun e w' => e = .returned (.bool (q.back n).2) ∧ St w0 w' (QAt 199 p (q.back n).1 * R) := by
  obtain ⟨lv, h1⟩ := h.q_open
  have c := h1.cell
  have f := h1.free
  unfold Q.back
  by_cases a1 : n < 0
  · rw [if_pos (.inl a1)]
    go_enter Tryz.func287, Tryz.ntmps287
    go_wp2
    go_ret
    exact ⟨rfl, h⟩
  by_cases a2 : (q.sent : Int) < n
  · rw [if_pos (.inr a2)]
    go_enter Tryz.func287, Tryz.ntmps287
    go_wp2
    go_ret
    exact ⟨rfl, h⟩
  rw [if_neg (by omega)]
  go_enter Tryz.func287, Tryz.ntmps287
  go_wp2
  go_ret
  exact ⟨rfl, (h1.set 2 _).q_shut rfl (by simp only []; omega) rfl rfl⟩

theorem r_clear (p : Nat) (q : Q) (w0 w : World) (R : HP) (h : St w0 w (QAt 199 p q * R)) (ok : q.Ok) :
    Calls Tryz.prog 226 #[ptr p] w fun e w' => e = .returned (.int .i64 q.l.length) ∧ St w0 w' (QAt 199 p ⟨q.most, [], 0⟩ * R) := by
  obtain ⟨lv, h1⟩ := h.q_open
  obtain ⟨_, m2, ll, sl⟩ := ok
  have c := h1.cell
  have f := h1.free
  obtain ⟨a, cap, rfl, hc1, hc2⟩ := h1.drop.row_shape
  go_enter Tryz.func226, Tryz.ntmps226
  go_wp2
  go_ret
  refine ⟨rfl, ?_⟩
  exact ((h1.set 1 (.slice none 0 0)).set 2 (.int .i64 0)).row_off.q_shut rfl rfl rfl rfl

set_option maxHeartbeats 1600000 in
theorem r_done (p : Nat) (q : Q) (n : Int) (w0 w : World) (R : HP) (h : St w0 w (QAt 199 p q * R)) (ok : q.Ok) :
    Calls Tryz.prog 289 #[ptr p, .int .i64 n] w fun e w' => e = .returned (.bool (q.done n).2) ∧ St w0 w' (QAt 199 p (q.done n).1 * R) := by
  obtain ⟨_, m2, ll, sl⟩ := id ok
  obtain ⟨lv, h1⟩ := h.q_open
  have c := h1.cell
  have f := h1.free
  unfold Q.done
  by_cases a1 : n < 0
  · rw [if_pos (.inl a1)]
    go_enter Tryz.func289, Tryz.ntmps289
    go_wp2
    go_ret
    exact ⟨rfl, h⟩
  by_cases a2 : (q.sent : Int) < n
  · rw [if_pos (.inr a2)]
    go_enter Tryz.func289, Tryz.ntmps289
    go_wp2
    go_ret
    exact ⟨rfl, h⟩
  rw [if_neg (by omega)]
  obtain ⟨j, rfl⟩ := Int.eq_ofNat_of_zero_le (show 0 ≤ n by omega)
  have hj : j ≤ q.sent := by omega
  obtain ⟨a, cap, rfl, hc1, hc2⟩ := h1.drop.row_shape
  obtain ⟨i0, hi, hz0, hz1, hz2⟩ := info_parts infoStr
  clear a1 a2
  have b0 : decide ((j : Int) < 0) = false := by simp
  have b1 : decide (q.sent < j) = false := by simpa using hj
  go_enter Tryz.func289, Tryz.ntmps289
  go_wp2
  go_loopw [5, 6] (fun v i wr => ∃ k : Nat, j ≤ k ∧ k ≤ q.l.length ∧ i = .int .i64 k ∧
      St w0 wr (Row 9 1 v (k - j) (strs ((q.l.drop j).take (k - j))) * (blk p (.cells #[.int .i64 q.most, .slice a q.l.length cap, .int .i64 q.sent] 199 (0, 0)) * (Row 9 1 (.slice a q.l.length cap) q.l.length (strs q.l) * R)))) (fun _ i _ => q.l.length - (intOf i).toNat)
  case atStart => exact ⟨j, Nat.le_refl _, by omega, rfl, by simpa using h1.row_nil 9 1⟩
  case round =>
    obtain ⟨k, hk1, hk2, rfl, h2⟩ := hrel
    have h3 := h2.eq (star_left_comm _ _ _)
    clear c f
    have c := h3.cell
    have f := h3.free
    by_cases hlt : k < q.l.length
    · rcases (h2.eq (show _ = Row _ _ (.slice a q.l.length cap) _ _ * (Row _ _ u5 _ _ * (blk p _ * R)) by ac_rfl)).row with ⟨_, e0, e1, _⟩ | ⟨g, off, cap', cur, e0, b1, b2, b3, b4, hr⟩
      · omega
      simp only [Value.slice.injEq] at e0
      obtain ⟨rfl, _, rfl⟩ := e0
      have ec : wr.cell? ⟨g, off + k, none⟩ = some (.string (q.l[k])) := by
        have := hr.cell (off + k)
        rw [b4 _ (by omega)] at this
        exact this.trans (by simp [hlt])
      have h4 := (h2.alloc (.cells #[.string q.l[k]] 9)).drop
      have H4 := Lib.hid h4
      have H2 := Lib.hid h2
      have B4 := Lib.hid b4
      clear h2 h4 b4
      go_wp2_with (at_builtin; refine wpList_append_row rfl (.tmp 27) (.tmp 35) 51 rfl H4.out Tryz.underlying51 hi hz0 hz1 hz2 rfl (by decide) rfl ⟨wr.heap.size, 0, none⟩ 1 1 [.string q.l[k]] rfl (by decide) rfl ?c1 ?c2 ?c3 ?c4 ?c5)
      case c1 => exact one_new _ _ _ _ rfl
      case c2 => intro u hu; simp at hu; subst hu; rfl
      case c3 => unfold maxLen; omega
      case c4 => omega
      case c5 =>
        intro g2 off2 cap2 w1 h5
        go_wp2
        go_roundw
        case rel =>
          refine ⟨k + 1, by omega, by omega, by go_num, ?_⟩
          have e1 : k + 1 - j = (k - j) + 1 := by omega
          have e2 : (q.l.drop j).take (k - j + 1) = (q.l.drop j).take (k - j) ++ [q.l[k]] := by
            rw [List.take_succ_eq_append_getElem (by simp; omega)]
            congr 2
            simp only [List.getElem_drop]
            congr 1
            omega
          rw [e1, e2]
          simpa [strs] using h5
        case measure => simp [intOf]; omega
    · obtain rfl : k = q.l.length := by omega
      obtain ⟨av, capv, rfl, _, _⟩ := h2.row_shape
      go_wp2
      go_ret
      refine ⟨rfl, ?_⟩
      have h4 := (h3.set 1 (.slice av (q.l.length - j) capv)).set 2 (.int .i64 (q.sent - j))
      have h5 := (h4.eq (star_3 _ _ _ _)).drop
      exact h5.q_shut rfl (by simp only []; omega) (by simp) (by simp [List.take_of_length_le])

theorem r_push_to {p : Nat} {q q' : Q} {s : ByteArray} {r : Int} {w0 w : World} {R : HP} (h : St w0 w (QAt 199 p q * R)) (ok : q.Ok) (e : q.push s = (q', r)) :
    Calls Tryz.prog 172 #[ptr p, .string s] w fun e w' => e = .returned (.int .i64 r) ∧ St w0 w' (QAt 199 p q' * R) := by
  have := r_push p q s w0 w R h ok
  rw [e] at this
  exact this
end Go.Proofs.YtnnahljdhdippaaGreatDoor

namespace Go.Proofs.YtnnahljdhdippaaGreatDoor
open Go.RowKit
set_option maxRecDepth 100000

def roomOf (va vs k : Int) : Int := max 0 (max 1 (min k 127) - (vs - va) % 128)

theorem s_wrap (n : Int) (w : World) : Calls Tryz.prog 298 #[.int .i64 n] w fun e w' => e = .returned (.int .i64 (n % 128)) ∧ w = w' := by
  have hb := i64_and127 n
  go_enter Tryz.func298, Tryz.ntmps298
  go_wp2
  go_ret
  exact ⟨rfl, rfl⟩

theorem s_norm (n : Int) (w : World) : Calls Tryz.prog 281 #[.int .i64 n] w fun e w' => e = .returned (.int .i64 (n % 128)) ∧ w = w' := by
  go_enter Tryz.func281, Tryz.ntmps281
  go_wp2_with fail
  refine (s_wrap _ _).mono ?_
  rintro e w1 ⟨rfl, rfl⟩
  go_wp2
  go_ret
  exact ⟨rfl, rfl⟩

theorem s_add (a n : Int) (w : World) : Calls Tryz.prog 257 #[.int .i64 a, .int .i64 n] w fun e w' => e = .returned (.int .i64 ((a + n) % 128)) ∧ w = w' := by
  have h1 := Int.emod_nonneg a (show (128 : Int) ≠ 0 by decide)
  have h2 := Int.emod_lt_of_pos a (show (0 : Int) < 128 by decide)
  have h3 := Int.emod_nonneg n (show (128 : Int) ≠ 0 by decide)
  have h4 := Int.emod_lt_of_pos n (show (0 : Int) < 128 by decide)
  go_enter Tryz.func257, Tryz.ntmps257
  go_wp2_with fail
  refine (s_norm _ _).mono ?_
  rintro e w1 ⟨rfl, rfl⟩
  go_wp2_with fail
  refine (s_norm _ _).mono ?_
  rintro e w1 ⟨rfl, rfl⟩
  go_wp2_with fail
  refine (s_norm _ _).mono ?_
  rintro e w1 ⟨rfl, rfl⟩
  go_wp2
  go_ret
  exact ⟨congrArg (fun x => Ending.returned (.int .i64 x)) (by omega), rfl⟩

theorem s_sub (a b : Int) (w : World) : Calls Tryz.prog 280 #[.int .i64 a, .int .i64 b] w fun e w' => e = .returned (.int .i64 ((a - b) % 128)) ∧ w = w' := by
  have h1 := Int.emod_nonneg a (show (128 : Int) ≠ 0 by decide)
  have h2 := Int.emod_lt_of_pos a (show (0 : Int) < 128 by decide)
  have h3 := Int.emod_nonneg b (show (128 : Int) ≠ 0 by decide)
  have h4 := Int.emod_lt_of_pos b (show (0 : Int) < 128 by decide)
  go_enter Tryz.func280, Tryz.ntmps280
  go_wp2_with fail
  refine (s_norm _ _).mono ?_
  rintro e w1 ⟨rfl, rfl⟩
  go_wp2_with fail
  refine (s_norm _ _).mono ?_
  rintro e w1 ⟨rfl, rfl⟩
  go_wp2_with fail
  refine (s_norm _ _).mono ?_
  rintro e w1 ⟨rfl, rfl⟩
  go_wp2
  go_ret
  exact ⟨congrArg (fun x => Ending.returned (.int .i64 x)) (by omega), rfl⟩

theorem s_valid (va nr vs : Int) (w : World) : Calls Tryz.prog 285 #[.int .i64 va, .int .i64 nr, .int .i64 vs] w fun e w' => e = .returned (.bool (decide ((nr - va) % 128 ≤ (vs - va) % 128))) ∧ w = w' := by
  go_enter Tryz.func285, Tryz.ntmps285
  go_wp2_with fail
  refine (s_sub _ _ _).mono ?_
  rintro e w1 ⟨rfl, rfl⟩
  go_wp2_with fail
  refine (s_sub _ _ _).mono ?_
  rintro e w1 ⟨rfl, rfl⟩
  go_wp2
  go_ret
  exact ⟨rfl, rfl⟩

theorem s_room (va vs k : Int) (w : World) : Calls Tryz.prog 255 #[.int .i64 va, .int .i64 vs, .int .i64 k] w fun e w' => e = .returned (.int .i64 (roomOf va vs k)) ∧ w = w' := by
  have h1 := Int.emod_nonneg (vs - va) (show (128 : Int) ≠ 0 by decide)
  have h2 := Int.emod_lt_of_pos (vs - va) (show (0 : Int) < 128 by decide)
  go_enter Tryz.func255, Tryz.ntmps255
  go_wp2_with fail
  all_goals
    refine (s_sub _ _ _).mono ?_
    rintro e w1 ⟨rfl, rfl⟩
    generalize hd : (vs - va) % 128 = d at *
    have Hd := Lib.hid hd
    clear hd
    go_wp2
    all_goals
      go_ret
      exact ⟨congrArg (fun x => Ending.returned (.int .i64 x)) (by unfold roomOf; have := Hd.out; omega), rfl⟩

/-! The reference's. -/
theorem t_norm (n : Int) (w : World) : Calls Tryz.prog 201 #[.int .i64 n] w fun e w' => e = .returned (.int .i64 (n % 128)) ∧ w = w' := by
  by_cases h : 0 ≤ n
  · have h1 := Int.emod_nonneg n (show (128 : Int) ≠ 0 by decide)
    go_enter Tryz.func201, Tryz.ntmps201
    go_wp2
    go_ret
    exact ⟨rfl, rfl⟩
  · have e1 : n.tmod 128 = - ((-n) % 128) := by rw [tmod_eq_if, if_neg h]
    have h1 := Int.emod_nonneg (-n) (show (128 : Int) ≠ 0 by decide)
    have h2 := Int.emod_lt_of_pos (-n) (show (0 : Int) < 128 by decide)
    by_cases hz : (-n) % 128 = 0
    · have e2 : n.tmod 128 = 0 := by omega
      have H := Lib.hid hz
      clear hz e1
      go_enter Tryz.func201, Tryz.ntmps201
      go_wp2
      go_ret
      exact ⟨congrArg (fun x => Ending.returned (.int .i64 x)) (by have := H.out; omega), rfl⟩
    · have h3 : n.tmod 128 < 0 := by omega
      have h4 : -128 < n.tmod 128 := by omega
      have H := Lib.hid e1
      clear e1
      go_enter Tryz.func201, Tryz.ntmps201
      go_wp2
      go_ret
      exact ⟨congrArg (fun x => Ending.returned (.int .i64 x)) (by have := H.out; omega), rfl⟩

theorem t_add (a n : Int) (w : World) : Calls Tryz.prog 260 #[.int .i64 a, .int .i64 n] w fun e w' => e = .returned (.int .i64 ((a + n) % 128)) ∧ w = w' := by
  obtain ⟨x, hx⟩ : ∃ x : Nat, a % 128 = x := ⟨(a % 128).toNat, by omega⟩
  obtain ⟨y, hy⟩ : ∃ y : Nat, n % 128 = y := ⟨(n % 128).toNat, by omega⟩
  have x1 : x < 128 := by omega
  have y1 : y < 128 := by omega
  have fin : (a + n) % 128 = ((x + y) % 128 : Nat) := by omega
  have Hx := Lib.hid hx
  have Hy := Lib.hid hy
  have Hf := Lib.hid fin
  clear hx hy fin
  go_enter Tryz.func260, Tryz.ntmps260
  go_wp2_with fail
  refine (t_norm _ _).mono ?_
  rintro e w1 ⟨rfl, rfl⟩
  rw [Hx.out]
  go_wp2_with fail
  refine (t_norm _ _).mono ?_
  rintro e w1 ⟨rfl, rfl⟩
  rw [Hy.out]
  go_wp2_with fail
  go_loop [5, 7] (fun v i => ∃ k : Nat, k ≤ y ∧ i = .int .i64 k ∧ v = .int .i64 ((x + k) % 128 : Nat)) (fun _ i => y - (intOf i).toNat)
  case atStart => exact ⟨0, by omega, rfl, by rw [Nat.add_zero, Nat.mod_eq_of_lt x1]⟩
  case round =>
    obtain ⟨k, hk, rfl, rfl⟩ := hrel
    by_cases hlt : k < y
    · obtain ⟨z, hz⟩ : ∃ z : Nat, (x + k) % 128 = z := ⟨_, rfl⟩
      have z1 : z < 128 := by omega
      rw [hz]
      have Hz := Lib.hid hz
      clear hz
      by_cases hw : z = 127
      · subst hw
        go_wp2
        go_round
        case rel => exact ⟨k + 1, by omega, by go_num, by have := Hz.out; congr 1; omega⟩
        case measure => simp [intOf]; omega
      · have hb : ((z : Int) + 1 == 128) = false := by simp; omega
        go_wp2
        go_round
        case rel => exact ⟨k + 1, by omega, by go_num, by have := Hz.out; congr 1; omega⟩
        case measure => simp [intOf]; omega
    · obtain rfl : k = y := by omega
      go_wp2
      go_ret
      exact ⟨congrArg (fun x => Ending.returned (.int .i64 x)) Hf.out.symm, rfl⟩

theorem t_sub (a b : Int) (w : World) : Calls Tryz.prog 282 #[.int .i64 a, .int .i64 b] w fun e w' => e = .returned (.int .i64 ((a - b) % 128)) ∧ w = w' := by
  obtain ⟨x, hx⟩ : ∃ x : Nat, a % 128 = x := ⟨(a % 128).toNat, by omega⟩
  obtain ⟨y, hy⟩ : ∃ y : Nat, b % 128 = y := ⟨(b % 128).toNat, by omega⟩
  obtain ⟨d, hd⟩ : ∃ d : Nat, (a - b) % 128 = d := ⟨((a - b) % 128).toNat, by omega⟩
  have x1 : x < 128 := by omega
  have y1 : y < 128 := by omega
  have d1 : d < 128 := by omega
  have fin : (y + d) % 128 = x := by omega
  have Hx := Lib.hid hx
  have Hy := Lib.hid hy
  have Hf := Lib.hid fin
  have Hd := Lib.hid hd
  clear hx hy fin hd
  go_enter Tryz.func282, Tryz.ntmps282
  go_wp2_with fail
  refine (t_norm _ _).mono ?_
  rintro e w1 ⟨rfl, rfl⟩
  rw [Hx.out]
  go_wp2_with fail
  refine (t_norm _ _).mono ?_
  rintro e w1 ⟨rfl, rfl⟩
  rw [Hy.out]
  go_wp2_with fail
  go_loop [6, 7] (fun v i => ∃ k : Nat, k ≤ d ∧ i = .int .i64 k ∧ v = .int .i64 ((y + k) % 128 : Nat)) (fun _ i => d - (intOf i).toNat)
  case atStart => exact ⟨0, by omega, rfl, by rw [Nat.add_zero, Nat.mod_eq_of_lt y1]⟩
  case round =>
    obtain ⟨k, hk, rfl, rfl⟩ := hrel
    by_cases hlt : k < d
    · obtain ⟨z, hz⟩ : ∃ z : Nat, (y + k) % 128 = z := ⟨_, rfl⟩
      have z1 : z < 128 := by omega
      have hne : ((z : Int) != (x : Int)) = true := by have := Hf.out; simp; omega
      rw [hz]
      have Hz := Lib.hid hz
      clear hz
      by_cases hw : z = 127
      · subst hw
        go_wp2
        go_round
        case rel => exact ⟨k + 1, by omega, by go_num, by have := Hz.out; congr 1; omega⟩
        case measure => simp [intOf]; omega
      · have hb : ((z : Int) + 1 == 128) = false := by simp; omega
        go_wp2
        go_round
        case rel => exact ⟨k + 1, by omega, by go_num, by have := Hz.out; congr 1; omega⟩
        case measure => simp [intOf]; omega
    · obtain rfl : k = d := by omega
      rw [Hf.out]
      have hne : ((x : Int) != (x : Int)) = false := by simp
      go_wp2
      go_ret
      exact ⟨congrArg (fun x => Ending.returned (.int .i64 x)) Hd.out.symm, rfl⟩

theorem t_room (va vs k : Int) (w : World) : Calls Tryz.prog 258 #[.int .i64 va, .int .i64 vs, .int .i64 k] w fun e w' => e = .returned (.int .i64 (roomOf va vs k)) ∧ w = w' := by
  have h1 := Int.emod_nonneg (vs - va) (show (128 : Int) ≠ 0 by decide)
  have h2 := Int.emod_lt_of_pos (vs - va) (show (0 : Int) < 128 by decide)
  go_enter Tryz.func258, Tryz.ntmps258
  go_wp2_with fail
  all_goals
    refine (t_sub _ _ _).mono ?_
    rintro e w1 ⟨rfl, rfl⟩
    generalize hd : (vs - va) % 128 = d at *
    have Hd := Lib.hid hd
    clear hd
    go_wp2
    all_goals
      go_ret
      exact ⟨congrArg (fun x => Ending.returned (.int .i64 x)) (by unfold roomOf; have := Hd.out; omega), rfl⟩

set_option maxRecDepth 100000 in
theorem t_valid (va nr vs : Int) (w : World) : Calls Tryz.prog 288 #[.int .i64 va, .int .i64 nr, .int .i64 vs] w fun e w' => e = .returned (.bool (decide ((nr - va) % 128 ≤ (vs - va) % 128))) ∧ w = w' := by
  obtain ⟨x, hx⟩ : ∃ x : Nat, va % 128 = x := ⟨(va % 128).toNat, by omega⟩
  obtain ⟨r, hr⟩ : ∃ r : Nat, nr % 128 = r := ⟨(nr % 128).toNat, by omega⟩
  obtain ⟨s, hs⟩ : ∃ s : Nat, vs % 128 = s := ⟨(vs % 128).toNat, by omega⟩
  obtain ⟨i, hi⟩ : ∃ i : Nat, (nr - va) % 128 = i := ⟨((nr - va) % 128).toNat, by omega⟩
  obtain ⟨j, hj⟩ : ∃ j : Nat, (vs - va) % 128 = j := ⟨((vs - va) % 128).toNat, by omega⟩
  have x1 : x < 128 := by omega
  have r1 : r < 128 := by omega
  have s1 : s < 128 := by omega
  have i1 : i < 128 := by omega
  have j1 : j < 128 := by omega
  have fi : (x + i) % 128 = r := by omega
  have fj : (x + j) % 128 = s := by omega
  rw [hi, hj]
  have Hx := Lib.hid hx
  have Hr := Lib.hid hr
  have Hs := Lib.hid hs
  have Hi := Lib.hid fi
  have Hj := Lib.hid fj
  clear hx hr hs hi hj fi fj
  go_enter Tryz.func288, Tryz.ntmps288
  go_wp2_with fail
  refine (t_norm _ _).mono ?_
  rintro e w1 ⟨rfl, rfl⟩
  rw [Hx.out]
  go_wp2_with fail
  refine (t_norm _ _).mono ?_
  rintro e w1 ⟨rfl, rfl⟩
  rw [Hr.out]
  go_wp2_with fail
  refine (t_norm _ _).mono ?_
  rintro e w1 ⟨rfl, rfl⟩
  rw [Hs.out]
  go_wp2_with fail
  go_loop [7, 10] (fun v c => ∃ k : Nat, k ≤ i ∧ k ≤ j ∧ c = .int .i64 k ∧ v = .int .i64 ((x + k) % 128 : Nat)) (fun _ c => 128 - (intOf c).toNat)
  case atStart => exact ⟨0, by omega, by omega, rfl, by rw [Nat.add_zero, Nat.mod_eq_of_lt x1]⟩
  case round =>
    obtain ⟨k, hk, hk2, rfl, rfl⟩ := hrel
    obtain ⟨z, hz⟩ : ∃ z : Nat, (x + k) % 128 = z := ⟨_, rfl⟩
    have z1 : z < 128 := by omega
    rw [hz]
    have Hz := Lib.hid hz
    clear hz
    by_cases ei : k = i
    · have ez : z = r := by have := Hz.out; have := Hi.out; omega
      have hb : ((z : Int) == (r : Int)) = true := by simp; omega
      clear ez
      go_wp2
      go_ret
      exact ⟨congrArg (fun x => Ending.returned (.bool x)) (by simp; omega), rfl⟩
    · have hb : ((z : Int) == (r : Int)) = false := by have := Hz.out; have := Hi.out; simp; omega
      by_cases ej : k = j
      · have hb2 : ((z : Int) == (s : Int)) = true := by have := Hz.out; have := Hj.out; simp; omega
        go_wp2
        go_ret
        exact ⟨congrArg (fun x => Ending.returned (.bool x)) (by simp; omega), rfl⟩
      · have hb2 : ((z : Int) == (s : Int)) = false := by have := Hz.out; have := Hj.out; simp; omega
        go_wp2_with fail
        refine (t_add _ _ _).mono ?_
        rintro e w1 ⟨rfl, rfl⟩
        go_wp2
        go_round
        case rel => exact ⟨k + 1, by omega, by omega, by go_num, congrArg (Value.int .i64) (by have := Hz.out; omega)⟩
        case measure => simp [intOf]; omega
end Go.Proofs.YtnnahljdhdippaaGreatDoor

namespace Go.Proofs.YtnnahljdhdippaaGreatDoor
open Go.RowKit
set_option maxRecDepth 100000

structure Fl where
  vs : Nat
  va : Nat
  vr : Nat
  peer : Bool
  own : Bool
  refused : Bool
  k : Int
  q : Q

structure Fl.Ok (s : Fl) : Prop where
  s1 : s.vs < 128
  a1 : s.va < 128
  r1 : s.vr < 128
  q : s.q.Ok
  w : (s.q.sent : Int) = ((s.vs : Int) - s.va) % 128
  n : (s.q.sent : Int) ≤ max 1 (min s.k 127)

abbrev Fl.cells (s : Fl) (qp : Nat) : Array Value := #[.int .i64 s.vs, .int .i64 s.va, .int .i64 s.vr, .bool s.peer, .bool s.own, .bool s.refused, .int .i64 s.k, ptr qp]

def FAt (T U : TypeId) (f : Nat) (s : Fl) : HP := hex fun qp : Nat => blk f (.cells (s.cells qp) T (0, 0)) * QAt U qp s.q

theorem St.f_open {w0 w : World} {R : HP} {T U : TypeId} {f : Nat} {s : Fl} (h : St w0 w (FAt T U f s * R)) :
    ∃ qp, St w0 w (blk f (.cells (s.cells qp) T (0, 0)) * (QAt U qp s.q * R)) := by
  obtain ⟨qp, h⟩ := h.ex
  exact ⟨qp, h.eq (star_assoc _ _ _)⟩

theorem St.f_shut {w0 w : World} {R : HP} {T U : TypeId} {f qp : Nat} {s : Fl} {c : Array Value} {q : Q} (h : St w0 w (blk f (.cells c T (0, 0)) * (QAt U qp q * R))) (hc : c = s.cells qp) (hq : q = s.q) : St w0 w (FAt T U f s * R) := by
  subst hc hq
  exact St.mk_ex qp (h.eq (star_assoc _ _ _).symm)

abbrev TF : TypeId := 286
abbrev TQ : TypeId := 333
abbrev TG : TypeId := 157
abbrev TR : TypeId := 199

theorem quiet_left {P : Program} {f : FuncId} {args : Array Value} {w : World} {n : Nat} {v : Value}
    (h : Calls P f args (w.drewN n) fun e w' => e = .returned v ∧ w.drewN n = w') : Calls P f args (w.drewN n) fun e w'' => e = .returned v ∧ ∃ m, w'' = w.drewN m :=
  h.mono fun _ _ ⟨he, hm⟩ => ⟨he, n, hm.symm⟩

/-! New -/
theorem f_new (k n : Int) (w0 w : World) (R : HP) (h : St w0 w R) :
    Calls Tryz.prog 75 #[.int .i64 k, .int .i64 n] w fun e w' => ∃ f, e = .returned (ptr f) ∧ St w0 w' (FAt TF TQ f ⟨0, 0, 0, false, false, false, k, ⟨(max 1 (min n 256)).toNat, [], 0⟩⟩ * R) := by
  go_enter Tryz.func75, Tryz.ntmps75
  go_wp2_with fail
  refine (q_new n w0 w R h).mono ?_
  rintro e w1 ⟨p, rfl, h1⟩
  go_wp2
  go_ret
  exact ⟨_, rfl, (h1.alloc (.cells (Fl.cells ⟨0, 0, 0, false, false, false, k, ⟨(max 1 (min n 256)).toNat, [], 0⟩⟩ p) TF)).f_shut rfl rfl⟩

theorem g_new (k n : Int) (w0 w : World) (R : HP) (h : St w0 w R) :
    Calls Tryz.prog 77 #[.int .i64 k, .int .i64 n] w fun e w' => ∃ f, e = .returned (ptr f) ∧ St w0 w' (FAt TG TR f ⟨0, 0, 0, false, false, false, k, ⟨(max 1 (min n 256)).toNat, [], 0⟩⟩ * R) := by
  go_enter Tryz.func77, Tryz.ntmps77
  go_wp2_with fail
  refine (r_new n w0 w R h).mono ?_
  rintro e w1 ⟨p, rfl, h1⟩
  go_wp2
  go_ret
  exact ⟨_, rfl, (h1.alloc (.cells (Fl.cells ⟨0, 0, 0, false, false, false, k, ⟨(max 1 (min n 256)).toNat, [], 0⟩⟩ p) TG)).f_shut rfl rfl⟩

/-! Push -/
theorem f_push (f : Nat) (s : Fl) (d : ByteArray) (w0 w : World) (R : HP) (h : St w0 w (FAt TF TQ f s * R)) (ok : s.Ok) :
    Calls Tryz.prog 159 #[ptr f, .string d] w fun e w' => e = .returned (.int .i64 (s.q.push d).2) ∧ St w0 w' (FAt TF TQ f { s with q := (s.q.push d).1 } * R) := by
  obtain ⟨qp, h1⟩ := h.f_open
  have c := h1.cell
  have f := h1.free
  go_enter Tryz.func159, Tryz.ntmps159
  go_wp2_with fail
  refine (q_push qp s.q d w0 w _ (h1.eq (star_left_comm _ _ _)) ok.q).mono ?_
  rintro e w1 ⟨rfl, h2⟩
  go_wp2
  go_ret
  exact ⟨rfl, (h2.eq (star_left_comm _ _ _)).f_shut (s := { s with q := (s.q.push d).1 }) rfl rfl⟩

/-! Take -/
def Fl.take (s : Fl) : Fl × Nat × ByteArray × Bool :=
  if s.peer = true ∨ s.q.l.length ≤ s.q.sent ∨ roomOf s.va s.vs s.k = 0 then (s, 0, ⟨#[]⟩, false)
  else ({ s with vs := (s.vs + 1) % 128, q := s.q.take.1 }, s.vs, s.q.take.2.1, true)

set_option maxHeartbeats 1600000 in
theorem f_take (f : Nat) (s : Fl) (w0 w : World) (R : HP) (h : St w0 w (FAt TF TQ f s * R)) (ok : s.Ok) :
    Calls Tryz.prog 225 #[ptr f] w fun e w' => e = .returned (.tuple #[.int .i64 s.take.2.1, .string s.take.2.2.1, .bool s.take.2.2.2]) ∧ St w0 w' (FAt TF TQ f s.take.1 * R) := by
  obtain ⟨qp, h1⟩ := h.f_open
  have hq := h1.eq (star_left_comm _ _ _)
  unfold Fl.take
  have o1 := ok.s1
  have sl := ok.q.sl
  obtain ⟨vs, va, vr, peer, own, refused, k, q⟩ := s
  have c := h1.cell
  have f := h1.free
  simp only [] at *
  cases peer with
  | true =>
    rw [if_pos (.inl rfl)]
    go_enter Tryz.func225, Tryz.ntmps225
    go_wp2
    go_quiet (fail)
    go_wp2
    go_ret3
    exact ⟨rfl, h.drewN _⟩
  | false =>
  by_cases b1 : q.l.length ≤ q.sent
  · rw [if_pos (.inr (.inl b1))]
    have hb : ((q.l.length : Int) - (q.sent : Int) == 0) = true := by simp; omega
    go_enter Tryz.func225, Tryz.ntmps225
    go_wp2
    go_quiet ((go_at_call 152; exact Calls.quiet_of (q_left qp q w0 _ _ (hq.drewN _) ok.q)))
    go_wp2
    go_ret3
    exact ⟨rfl, h.drewN _⟩
  have hb : ((q.l.length : Int) - (q.sent : Int) == 0) = false := by simp; omega
  by_cases b2 : roomOf va vs k = 0
  · rw [if_pos (.inr (.inr b2))]
    have hr : (roomOf va vs k == 0) = true := by simpa using b2
    clear b2
    go_enter Tryz.func225, Tryz.ntmps225
    go_wp2
    go_quiet ((first | (go_at_call 152; exact Calls.quiet_of (q_left qp q w0 _ _ (hq.drewN _) ok.q)) | (go_at_call 255; exact quiet_left (s_room _ _ _ _))))
    go_wp2
    go_ret3
    exact ⟨rfl, h.drewN _⟩
  · rw [if_neg (by simp; omega)]
    have hr : (roomOf va vs k == 0) = false := by simpa using b2
    clear b2
    go_enter Tryz.func225, Tryz.ntmps225
    go_wp2
    go_quiet ((first | (go_at_call 152; exact Calls.quiet_of (q_left qp q w0 _ _ (hq.drewN _) ok.q)) | (go_at_call 255; exact quiet_left (s_room _ _ _ _))))
    go_wp2_with fail
    refine (q_take qp q w0 _ _ (hq.drewN _) ok.q).mono ?_
    rintro e w1 ⟨rfl, h2⟩
    have h3 := h2.eq (star_left_comm _ _ _)
    have c3 := h3.cell
    have f3 := h3.free
    go_wp2_with fail
    refine (s_add _ _ _).mono ?_
    rintro e w2 ⟨rfl, rfl⟩
    go_wp2
    go_ret3
    refine ⟨rfl, (h3.set 0 (.int .i64 (((vs : Int) + 1) % 128))).f_shut ?_ rfl⟩
    simp [Fl.cells]

theorem g_take (f : Nat) (s : Fl) (w0 w : World) (R : HP) (h : St w0 w (FAt TG TR f s * R)) (ok : s.Ok) :
    Calls Tryz.prog 227 #[ptr f] w fun e w' => e = .returned (.tuple #[.int .i64 s.take.2.1, .string s.take.2.2.1, .bool s.take.2.2.2]) ∧ St w0 w' (FAt TG TR f s.take.1 * R) := by
  obtain ⟨qp, h1⟩ := h.f_open
  have hq := h1.eq (star_left_comm _ _ _)
  unfold Fl.take
  have o1 := ok.s1
  have sl := ok.q.sl
  obtain ⟨vs, va, vr, peer, own, refused, k, q⟩ := s
  have c := h1.cell
  have f := h1.free
  simp only [] at *
  cases peer with
  | true =>
    rw [if_pos (.inl rfl)]
    go_enter Tryz.func227, Tryz.ntmps227
    go_wp2
    go_quiet ((go_at_call 258; exact quiet_left (t_room _ _ _ _)))
    go_wp2
    go_ret3
    exact ⟨rfl, h.drewN _⟩
  | false =>
  by_cases b2 : roomOf va vs k = 0
  · rw [if_pos (.inr (.inr b2))]
    have hr : (roomOf va vs k == 0) = true := by simpa using b2
    clear b2
    go_enter Tryz.func227, Tryz.ntmps227
    go_wp2
    go_quiet ((go_at_call 258; exact quiet_left (t_room _ _ _ _)))
    go_wp2
    go_ret3
    exact ⟨rfl, h.drewN _⟩
  have hr : (roomOf va vs k == 0) = false := by simpa using b2
  by_cases b1 : q.l.length ≤ q.sent
  · rw [if_pos (.inr (.inl b1))]
    have hk : q.take = (q, ⟨#[]⟩, false) := by unfold Q.take; rw [if_neg (by omega)]
    have Hk := Lib.hid hk
    clear b2 hk
    go_enter Tryz.func227, Tryz.ntmps227
    go_wp2
    go_quiet ((go_at_call 258; exact quiet_left (t_room _ _ _ _)))
    go_wp2_with fail
    refine (r_take qp q w0 _ _ (hq.drewN _) ok.q).mono ?_
    rintro e w1 ⟨rfl, h2⟩
    simp only [Hk.out] at h2 ⊢
    go_wp2
    go_ret3
    exact ⟨rfl, (h2.eq (star_left_comm _ _ _)).f_shut rfl rfl⟩
  · rw [if_neg (by simp; omega)]
    have hk : q.take.2.2 = true := by unfold Q.take; rw [if_pos (by omega)]
    have Hk := Lib.hid hk
    clear b2 hk
    go_enter Tryz.func227, Tryz.ntmps227
    go_wp2
    go_quiet ((go_at_call 258; exact quiet_left (t_room _ _ _ _)))
    go_wp2_with fail
    refine (r_take qp q w0 _ _ (hq.drewN _) ok.q).mono ?_
    rintro e w1 ⟨rfl, h2⟩
    simp only [Hk.out]
    have h3 := h2.eq (star_left_comm _ _ _)
    have c3 := h3.cell
    have f3 := h3.free
    go_wp2_with fail
    refine (t_add _ _ _).mono ?_
    rintro e w2 ⟨rfl, rfl⟩
    go_wp2
    go_ret3
    refine ⟨rfl, (h3.set 0 (.int .i64 (((vs : Int) + 1) % 128))).f_shut ?_ rfl⟩
    simp [Fl.cells]

/-! Ack -/
def Fl.ack (s : Fl) (nr : Int) : Fl × Int × Int :=
  if (nr - s.va) % 128 ≤ ((s.vs : Int) - s.va) % 128 then ({ s with va := (nr % 128).toNat, q := (s.q.done ((nr - s.va) % 128)).1 }, (nr - s.va) % 128, 0) else (s, 0, 2)

theorem f_ack (f : Nat) (s : Fl) (nr : Int) (w0 w : World) (R : HP) (h : St w0 w (FAt TF TQ f s * R)) (ok : s.Ok) :
    Calls Tryz.prog 264 #[ptr f, .int .i64 nr] w fun e w' => e = .returned (.tuple #[.int .i64 (s.ack nr).2.1, .int .i64 (s.ack nr).2.2]) ∧ St w0 w' (FAt TF TQ f (s.ack nr).1 * R) := by
  obtain ⟨qp, h1⟩ := h.f_open
  have hq := h1.eq (star_left_comm _ _ _)
  unfold Fl.ack
  obtain ⟨vs, va, vr, peer, own, refused, k, q⟩ := s
  have c := h1.cell
  have f := h1.free
  have okq := ok.q
  simp only [] at *
  have n1 := Int.emod_nonneg nr (show (128 : Int) ≠ 0 by decide)
  by_cases b : (nr - va) % 128 ≤ ((vs : Int) - va) % 128
  · rw [if_pos b]
    have hb : decide ((nr - va) % 128 ≤ ((vs : Int) - va) % 128) = true := by simpa using b
    clear b
    go_enter Tryz.func264, Tryz.ntmps264
    go_wp2
    go_quiet ((go_at_call 285; exact quiet_left (s_valid _ _ _ _)))
    go_wp2_with fail
    refine (s_sub _ _ _).mono ?_
    rintro e w1 ⟨rfl, rfl⟩
    go_wp2_with fail
    refine (q_done qp q _ w0 _ _ (hq.drewN _) okq).mono ?_
    rintro e w1 ⟨rfl, h2⟩
    have h3 := h2.eq (star_left_comm _ _ _)
    have c3 := h3.cell
    have f3 := h3.free
    go_wp2_with fail
    refine (s_norm _ _).mono ?_
    rintro e w2 ⟨rfl, rfl⟩
    go_wp2
    go_ret2
    refine ⟨rfl, (h3.set 1 (.int .i64 (nr % 128))).f_shut ?_ rfl⟩
    simp [Fl.cells]
    omega
  · rw [if_neg b]
    have hb : decide ((nr - va) % 128 ≤ ((vs : Int) - va) % 128) = false := by simpa using b
    clear b
    go_enter Tryz.func264, Tryz.ntmps264
    go_wp2
    go_quiet ((go_at_call 285; exact quiet_left (s_valid _ _ _ _)))
    go_wp2
    go_ret2
    exact ⟨rfl, h.drewN _⟩

theorem g_ack (f : Nat) (s : Fl) (nr : Int) (w0 w : World) (R : HP) (h : St w0 w (FAt TG TR f s * R)) (ok : s.Ok) :
    Calls Tryz.prog 270 #[ptr f, .int .i64 nr] w fun e w' => e = .returned (.tuple #[.int .i64 (s.ack nr).2.1, .int .i64 (s.ack nr).2.2]) ∧ St w0 w' (FAt TG TR f (s.ack nr).1 * R) := by
  obtain ⟨qp, h1⟩ := h.f_open
  have hq := h1.eq (star_left_comm _ _ _)
  unfold Fl.ack
  obtain ⟨vs, va, vr, peer, own, refused, k, q⟩ := s
  have c := h1.cell
  have f := h1.free
  have okq := ok.q
  simp only [] at *
  have n1 := Int.emod_nonneg nr (show (128 : Int) ≠ 0 by decide)
  by_cases b : (nr - va) % 128 ≤ ((vs : Int) - va) % 128
  · rw [if_pos b]
    have hb : decide ((nr - va) % 128 ≤ ((vs : Int) - va) % 128) = true := by simpa using b
    clear b
    go_enter Tryz.func270, Tryz.ntmps270
    go_wp2
    go_quiet ((go_at_call 288; exact quiet_left (t_valid _ _ _ _)))
    go_wp2_with fail
    refine (t_sub _ _ _).mono ?_
    rintro e w1 ⟨rfl, rfl⟩
    go_wp2_with fail
    refine (r_done qp q _ w0 _ _ (hq.drewN _) okq).mono ?_
    rintro e w1 ⟨rfl, h2⟩
    have h3 := h2.eq (star_left_comm _ _ _)
    have c3 := h3.cell
    have f3 := h3.free
    go_wp2_with fail
    refine (t_norm _ _).mono ?_
    rintro e w2 ⟨rfl, rfl⟩
    go_wp2
    go_ret2
    refine ⟨rfl, (h3.set 1 (.int .i64 (nr % 128))).f_shut ?_ rfl⟩
    simp [Fl.cells]
    omega
  · rw [if_neg b]
    have hb : decide ((nr - va) % 128 ≤ ((vs : Int) - va) % 128) = false := by simpa using b
    clear b
    go_enter Tryz.func270, Tryz.ntmps270
    go_wp2
    go_quiet ((go_at_call 288; exact quiet_left (t_valid _ _ _ _)))
    go_wp2
    go_ret2
    exact ⟨rfl, h.drewN _⟩
end Go.Proofs.YtnnahljdhdippaaGreatDoor
