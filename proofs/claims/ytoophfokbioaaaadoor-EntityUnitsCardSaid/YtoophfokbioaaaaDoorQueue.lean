/- The queue: what each of its calls does to it. -/
import Derived.Test.YtoophfokbioaaaaDoorProg
import Derived.Test.YtoophfokbioaaaaDoorRow
namespace Go.Proofs.YtoophfokbioaaaaDoor
open Go.RowKit

structure Q where
  most : Nat
  l : List ByteArray
  sent : Nat

structure Q.Ok (q : Q) : Prop where
  m1 : 1 ≤ q.most
  m2 : q.most ≤ 256
  ll : q.l.length ≤ q.most
  sl : q.sent ≤ q.l.length

abbrev strs (l : List ByteArray) : List Value := l.map Value.string

/-- A pointer to block b. -/
abbrev ptr (b : Nat) : Value := .pointer (some ⟨b, 0, none⟩)

def QAt (T : TypeId) (p : Nat) (q : Q) : HP := hex fun lv : Value => blk p (.cells #[.int .i64 q.most, lv, .int .i64 q.sent] T (0, 0)) * Row 9 1 lv q.l.length (strs q.l)

theorem St.q_open {w0 w : World} {R : HP} {T : TypeId} {p : Nat} {q : Q} (h : St w0 w (QAt T p q * R)) :
    ∃ lv, St w0 w (blk p (.cells #[.int .i64 q.most, lv, .int .i64 q.sent] T (0, 0)) * (Row 9 1 lv q.l.length (strs q.l) * R)) := by
  obtain ⟨lv, h⟩ := h.ex
  exact ⟨lv, h.eq (star_assoc _ _ _)⟩

theorem St.q_shut {w0 w : World} {R : HP} {T : TypeId} {p : Nat} {m s : Int} {lv : Value} {q : Q} {xs : List Value} {k : Nat}
    (h : St w0 w (blk p (.cells #[.int .i64 m, lv, .int .i64 s] T (0, 0)) * (Row 9 1 lv k xs * R)))
    (hm : m = q.most) (hs : s = q.sent) (hk : k = q.l.length) (hx : xs = strs q.l) : St w0 w (QAt T p q * R) := by
  subst hm hs hk hx
  exact St.mk_ex lv (h.eq (star_assoc _ _ _).symm)

def Q.push (q : Q) (s : ByteArray) : Q × Int := if 260 < s.size then (q, 5) else if q.most ≤ q.l.length then (q, 10) else ({ q with l := q.l ++ [s] }, 0)

theorem infoStr : (Tryd.prog.info? 9).map (fun i => (i.zero, i.size, i.bytes)) = some (some (.string ⟨#[]⟩), 1, 16) := by kernel_rfl

set_option maxHeartbeats 800000 in
set_option maxRecDepth 100000 in
theorem q_push (p : Nat) (q : Q) (s : ByteArray) (w0 w : World) (R : HP) (h : St w0 w (QAt 94 p q * R)) (ok : q.Ok) :
    Calls Tryd.prog 57 #[ptr p, .string s] w fun e w' => e = .returned (.int .i64 (q.push s).2) ∧ St w0 w' (QAt 94 p (q.push s).1 * R) := by
  obtain ⟨lv, h1⟩ := h.q_open
  obtain ⟨_, m2, ll, _⟩ := ok
  have c := h1.cell
  have f := h1.free
  unfold Q.push
  by_cases a1 : 260 < s.size
  · rw [if_pos a1]
    go_enter Tryd.func57, Tryd.ntmps57
    go_wp2
    go_ret
    exact ⟨rfl, h⟩
  rw [if_neg a1]
  obtain ⟨a, cap, rfl, hc1, hc2⟩ := h1.drop.row_shape
  by_cases a2 : q.most ≤ q.l.length
  · rw [if_pos a2]
    go_enter Tryd.func57, Tryd.ntmps57
    go_wp2
    go_quiet (fail)
    go_wp2
    go_ret
    exact ⟨rfl, h.drewN _⟩
  · rw [if_neg a2]
    obtain ⟨i0, hi, hz0, hz1, hz2⟩ := info_parts infoStr
    have h2 : ∀ nq, St w0 ((w.drewN nq).alloc (.cells #[.string s] 9)) (Row 9 1 (.slice a q.l.length cap) q.l.length (strs q.l) * (blk p (.cells #[.int .i64 q.most, .slice a q.l.length cap, .int .i64 q.sent] 94 (0, 0)) * R)) :=
      fun nq => (((h1.drewN nq).alloc (.cells #[.string s] 9)).drop).eq (by ac_rfl)
    have H2 := Lib.hid h2
    clear h2
    go_enter Tryd.func57, Tryd.ntmps57
    go_wp2
    go_quiet (fail)
    go_wp2_with (at_builtin; refine wpList_append_row rfl (.tmp 27) (.tmp 29) 22 rfl (H2.out _) Tryd.underlying22 hi hz0 hz1 hz2 rfl (by decide) rfl ⟨w.heap.size, 0, none⟩ 1 1 [.string s] rfl (by decide) rfl ?c1 ?c2 ?c3 ?c4 ?c5)
    case c1 => exact one_new _ _ _ _ rfl
    case c2 => intro u hu; simp at hu; subst hu; rfl
    case c3 => unfold maxLen; omega
    case c4 => omega
    case c5 =>
      intro g off cap1 w1 h3
      have h4 := h3.eq (star_comm _ _) |>.eq (star_assoc _ _ _)
      have c := h4.cell
      have f := h4.free
      go_wp2
      go_ret
      refine ⟨rfl, ?_⟩
      have h5 := (h4.set 1 (.slice (some ⟨g, off, none⟩) (q.l.length + 1) cap1)).eq (show _ = _ * (Row _ _ _ _ _ * R) by ac_rfl)
      exact h5.q_shut rfl rfl (by simp) (by simp)

theorem q_new (n : Int) (w0 w : World) (R : HP) (hs : St w0 w R) :
    Calls Tryd.prog 34 #[.int .i64 n] w fun e w' => ∃ p, e = .returned (ptr p) ∧ St w0 w' (QAt 94 p ⟨(max 1 (min n 256)).toNat, [], 0⟩ * R) := by
  have fin : ∀ m : Int, m = max 1 (min n 256) → St w0 (w.alloc (.cells #[.int .i64 m, .slice none 0 0, .int .i64 0] 94)) (QAt 94 w.heap.size ⟨(max 1 (min n 256)).toNat, [], 0⟩ * R) := fun m hm =>
    ((hs.row_nil 9 1).alloc (.cells #[_, .slice none 0 0, .int .i64 0] 94)).q_shut (by simp only []; omega) rfl rfl rfl
  by_cases h2 : n ≤ 1
  · go_enter Tryd.func34, Tryd.ntmps34
    go_wp2
    go_ret
    exact ⟨w.heap.size, rfl, fin _ (by omega)⟩
  by_cases h1 : 256 < n
  · go_enter Tryd.func34, Tryd.ntmps34
    go_wp2
    go_ret
    exact ⟨w.heap.size, rfl, fin _ (by omega)⟩
  · go_enter Tryd.func34, Tryd.ntmps34
    go_wp2
    go_ret
    exact ⟨w.heap.size, rfl, fin _ (by omega)⟩

def Q.take (q : Q) : Q × ByteArray × Bool := if q.sent < q.l.length then ({ q with sent := q.sent + 1 }, q.l.getD q.sent ⟨#[]⟩, true) else (q, ⟨#[]⟩, false)

theorem q_left (p : Nat) (q : Q) (w0 w : World) (R : HP) (h : St w0 w (QAt 94 p q * R)) (ok : q.Ok) :
    Calls Tryd.prog 46 #[ptr p] w fun e w' => e = .returned (.int .i64 (q.l.length - q.sent)) ∧ ∃ n, w' = w.drewN n := by
  obtain ⟨lv, h1⟩ := h.q_open
  obtain ⟨_, m2, ll, sl⟩ := ok
  have c := h1.cell
  obtain ⟨a, cap, rfl, hc1, hc2⟩ := h1.drop.row_shape
  go_enter Tryd.func46, Tryd.ntmps46
  go_wp2
  go_quiet (fail)
  go_wp2
  go_ret
  exact ⟨rfl, _, rfl⟩

theorem q_sent (p : Nat) (q : Q) (w0 w : World) (R : HP) (h : St w0 w (QAt 94 p q * R)) :
    Calls Tryd.prog 45 #[ptr p] w fun e w' => e = .returned (.int .i64 q.sent) ∧ w = w' := by
  obtain ⟨lv, h1⟩ := h.q_open
  have c := h1.cell
  go_enter Tryd.func45, Tryd.ntmps45
  go_wp2
  go_ret
  exact ⟨rfl, rfl⟩

theorem q_take (p : Nat) (q : Q) (w0 w : World) (R : HP) (h : St w0 w (QAt 94 p q * R)) (ok : q.Ok) :
    Calls Tryd.prog 67 #[ptr p] w fun e w' => e = .returned (.tuple #[.string q.take.2.1, .bool q.take.2.2]) ∧ St w0 w' (QAt 94 p q.take.1 * R) := by
  obtain ⟨_, m2, ll, sl⟩ := id ok
  unfold Q.take
  by_cases a1 : q.sent < q.l.length
  · rw [if_pos a1]
    go_enter Tryd.func67, Tryd.ntmps67
    go_wp2_with fail
    refine (q_left p q w0 w R h ok).mono ?_
    rintro e w1 ⟨rfl, n, rfl⟩
    obtain ⟨lv, h1⟩ := (h.drewN n).q_open
    rcases (h1.eq (star_left_comm _ _ _)).row with ⟨_, rfl, e0, _⟩ | ⟨g, off, cap, cur, rfl, b1, b2, b3, b4, hr⟩
    · omega
    have c := h1.cell
    have f := h1.free
    have ec : w.cell? ⟨g, off + q.sent, none⟩ = some (.string (q.l.getD q.sent ⟨#[]⟩)) := by
      have := hr.cell (off + q.sent)
      rw [b4 _ (by omega)] at this
      exact this.trans (by simp [a1])
    have hgp : g ≠ p := by
      have := hr.eq (show _ = blk g _ * (blk p _ * R) by ac_rfl)
      exact this.ne
    go_wp2
    go_quiet (fail)
    go_wp2
    go_ret2
    refine ⟨by simp [a1], ?_⟩
    exact ((h1.set 2 (.int .i64 (q.sent + 1))).drewN _).q_shut rfl (by simp) rfl rfl
  · rw [if_neg a1]
    go_enter Tryd.func67, Tryd.ntmps67
    go_wp2_with fail
    refine (q_left p q w0 w R h ok).mono ?_
    rintro e w1 ⟨rfl, n, rfl⟩
    go_wp2
    go_ret2
    exact ⟨rfl, h.drewN n⟩

def Q.back (q : Q) (n : Int) : Q × Bool := if n < 0 ∨ (q.sent : Int) < n then (q, false) else ({ q with sent := n.toNat }, true)

theorem q_back (p : Nat) (q : Q) (n : Int) (w0 w : World) (R : HP) (h : St w0 w (QAt 94 p q * R)) :
    Calls Tryd.prog 69 #[ptr p, .int .i64 n] w fun e w' => e = .returned (.bool (q.back n).2) ∧ St w0 w' (QAt 94 p (q.back n).1 * R) := by
  obtain ⟨lv, h1⟩ := h.q_open
  have c := h1.cell
  have f := h1.free
  unfold Q.back
  by_cases a1 : n < 0
  · rw [if_pos (.inl a1)]
    go_enter Tryd.func69, Tryd.ntmps69
    go_wp2
    go_ret
    exact ⟨rfl, h⟩
  by_cases a2 : (q.sent : Int) < n
  · rw [if_pos (.inr a2)]
    go_enter Tryd.func69, Tryd.ntmps69
    go_wp2
    go_ret
    exact ⟨rfl, h⟩
  rw [if_neg (by omega)]
  go_enter Tryd.func69, Tryd.ntmps69
  go_wp2
  go_ret
  exact ⟨rfl, (h1.set 2 _).q_shut rfl (by simp only []; omega) rfl rfl⟩

def Q.done (q : Q) (n : Int) : Q × Bool := if n < 0 ∨ (q.sent : Int) < n then (q, false) else ({ q with l := q.l.drop n.toNat, sent := q.sent - n.toNat }, true)

theorem q_done (p : Nat) (q : Q) (n : Int) (w0 w : World) (R : HP) (h : St w0 w (QAt 94 p q * R)) (ok : q.Ok) :
    Calls Tryd.prog 73 #[ptr p, .int .i64 n] w fun e w' => e = .returned (.bool (q.done n).2) ∧ St w0 w' (QAt 94 p (q.done n).1 * R) := by
  obtain ⟨_, m2, ll, sl⟩ := id ok
  obtain ⟨lv, h1⟩ := h.q_open
  have c := h1.cell
  have f := h1.free
  unfold Q.done
  by_cases a1 : n < 0
  · rw [if_pos (.inl a1)]
    go_enter Tryd.func73, Tryd.ntmps73
    go_wp2
    go_ret
    exact ⟨rfl, h⟩
  by_cases a2 : (q.sent : Int) < n
  · rw [if_pos (.inr a2)]
    go_enter Tryd.func73, Tryd.ntmps73
    go_wp2
    go_ret
    exact ⟨rfl, h⟩
  rw [if_neg (by omega)]
  obtain ⟨a, cap, rfl, hc1, hc2⟩ := h1.drop.row_shape
  go_enter Tryd.func73, Tryd.ntmps73
  go_wp2
  go_region
  go_wp2
  · have e : q.l.length = n.toNat := by assumption
    go_ret
    refine ⟨rfl, ?_⟩
    exact (((h1.set 1 (.slice a 0 0)).set 2 (.int .i64 (q.sent - n))).drew).row_off a |>.q_shut rfl (by simp only []; omega) (by simp; omega) (by rw [← e]; simp)
  · have e : ¬ q.l.length = n.toNat := by assumption
    go_ret
    refine ⟨rfl, ?_⟩
    have h2 := (((h1.set 1 (.slice (a.map (fun x => x.add n.toNat)) (q.l.length - n.toNat) (q.l.length - n.toNat))).set 2 (.int .i64 (q.sent - n))).drew).eq (star_left_comm _ _ _)
    have h3 := (h2.row_from n.toNat (by omega))
    exact (h3.eq (star_left_comm _ _ _)).q_shut rfl (by simp only []; omega) (by simp) (by simp)

theorem q_clear (p : Nat) (q : Q) (w0 w : World) (R : HP) (h : St w0 w (QAt 94 p q * R)) (ok : q.Ok) :
    Calls Tryd.prog 56 #[ptr p] w fun e w' => e = .returned (.int .i64 q.l.length) ∧ St w0 w' (QAt 94 p ⟨q.most, [], 0⟩ * R) := by
  obtain ⟨lv, h1⟩ := h.q_open
  obtain ⟨_, m2, ll, sl⟩ := ok
  have c := h1.cell
  have f := h1.free
  obtain ⟨a, cap, rfl, hc1, hc2⟩ := h1.drop.row_shape
  go_enter Tryd.func56, Tryd.ntmps56
  go_wp2
  go_ret
  refine ⟨rfl, ?_⟩
  exact ((h1.set 1 (.slice none 0 0)).set 2 (.int .i64 0)).row_off.q_shut rfl rfl rfl rfl

end Go.Proofs.YtoophfokbioaaaaDoor
