/- FlowCarries: the walk. -/
import Derived.Test.YtopjbiiddaoklaaWFlowRefuses
import Derived.Test.YtopjbiiddaoklaaWQueueOrder
namespace Go.Proofs.Ytopjbiiddaoklaa
open Go.RowKit

def ca (k : Int) (n A sent : Nat) : Fl := ⟨(A + sent) % 128, A % 128, 0, false, false, false, k, ⟨256, ((List.range n).drop A).map byteStr, sent⟩⟩
def cb (k : Int) (got : Nat) (r : Bool) : Fl := ⟨0, 0, got % 128, false, false, r, k, ⟨256, [], 0⟩⟩

theorem ca_ok (k : Int) (n A sent : Nat) (hn : n < 200) (h1 : A + sent ≤ n) (h2 : (sent : Int) ≤ max 1 (min k 127)) : (ca k n A sent).Ok := by
  refine ⟨?_, ?_, ?_, ⟨?_, ?_, ?_, ?_⟩, ?_, ?_⟩
  all_goals simp only [ca, List.length_map, List.length_drop, List.length_range]
  all_goals omega
theorem cb_ok (k : Int) (got : Nat) (r : Bool) : (cb k got r).Ok := by
  refine ⟨?_, ?_, ?_, ⟨?_, ?_, ?_, ?_⟩, ?_, ?_⟩
  all_goals simp only [cb, List.length_nil]
  all_goals omega
theorem ca_take (k : Int) (n A sent : Nat) (h1 : A + sent < n) (h2 : (sent : Int) < max 1 (min k 127)) : (ca k n A sent).take = (ca k n A (sent + 1), (A + sent) % 128, byteStr (A + sent), true) := by
  unfold Fl.take
  rw [if_neg (by simp only [ca, roomOf, List.length_map, List.length_drop, List.length_range]; simp; omega)]
  have e1 : Q.take ⟨256, ((List.range n).drop A).map byteStr, sent⟩ = (⟨256, ((List.range n).drop A).map byteStr, sent + 1⟩, byteStr (A + sent), true) := by
    unfold Q.take
    rw [if_pos (by simp; omega)]
    have hlen : sent < n - A := by omega
    simp [List.getD, hlen]
  simp only [ca, e1]
  congr 2
  omega
theorem ca_none (k : Int) (n A sent : Nat) (h0 : A + sent ≤ n) (h3 : (sent : Int) ≤ max 1 (min k 127)) (h : ¬(A + sent < n ∧ (sent : Int) < max 1 (min k 127))) : (ca k n A sent).take = (ca k n A sent, 0, ⟨#[]⟩, false) := by
  unfold Fl.take
  rw [if_pos (by simp only [ca, roomOf, List.length_map, List.length_drop, List.length_range]; simp; omega)]
theorem ca_ack (k : Int) (n A sent got : Nat) (h1 : A ≤ got) (h2 : got ≤ A + sent) (h3 : sent ≤ 127) : (ca k n A sent).ack (((got % 128 : Nat) : Int)) = (ca k n got (A + sent - got), (got : Int) - A, 0) := by
  have e1 : (((got % 128 : Nat) : Int) - ((A % 128 : Nat) : Int)) % 128 = (got : Int) - A := by omega
  have e2 : ((((got % 128 : Nat) : Int)) % 128).toNat = got % 128 := by omega
  have e3 : (A + sent) % 128 = (got + (A + sent - got)) % 128 := by omega
  have e4 : ((got : Int) - A).toNat = got - A := by omega
  unfold Fl.ack
  rw [if_pos (by simp only [ca]; omega)]
  simp only [ca]
  rw [e1, e2, e3]
  unfold Q.done
  rw [if_neg (by simp only []; omega)]
  simp only [e4, ← List.map_drop, List.drop_drop]
  congr 3
  · rw [show A + (got - A) = got by omega]
  · omega
theorem ca_back (k : Int) (n A sent : Nat) : (ca k n A sent).back = ca k n A 0 := by
  unfold Fl.back
  simp only [back0_sent]
  simp [ca]
theorem cb_next (k : Int) (got x : Nat) (r : Bool) (h : x = got) : (cb k got r).come (((x % 128 : Nat) : Int)) = (cb k (got + 1) false, 0) := by
  subst h
  have e2 : ((((x % 128 : Nat) : Int) + 1) % 128).toNat = (x + 1) % 128 := by omega
  unfold Fl.come
  rw [if_neg (by simp [cb]), if_pos (by simp only [cb]; omega), e2]
  rfl
theorem cb_other (k : Int) (got x : Nat) (r : Bool) (h1 : x ≤ got + 127) (h2 : got ≤ x + 127) (h : x ≠ got) : ∃ c : Int, (c == 0) = false ∧ (cb k got r).come (((x % 128 : Nat) : Int)) = (cb k got true, c) := by
  unfold Fl.come
  rw [if_neg (by simp [cb]), if_neg (by simp only [cb]; omega)]
  cases r
  · exact ⟨1, rfl, rfl⟩
  · exact ⟨2, rfl, rfl⟩
theorem ca_view (k : Int) (n A sent : Nat) : (ca k n A sent).view = #[.int .i64 (((A + sent) % 128 : Nat) : Int), .int .i64 ((A % 128 : Nat) : Int), .int .i64 ((0 : Nat) : Int), .bool false, .bool false, .bool false, .int .i64 (sent : Int), .int .i64 (((n - A : Nat) : Int) - sent)] := by
  simp [Fl.view, ca]
theorem cb_view (k : Int) (got : Nat) (r : Bool) : (cb k got r).view = #[.int .i64 ((0 : Nat) : Int), .int .i64 ((0 : Nat) : Int), .int .i64 ((got % 128 : Nat) : Int), .bool false, .bool false, .bool r, .int .i64 ((0 : Nat) : Int), .int .i64 (((0 : Nat) : Int) - ((0 : Nat) : Int))] := rfl
theorem view_vr' (a b c g h : Int) (x y z : Bool) (w : World) : (Instr.field 57 (.agg #[.int .i64 a, .int .i64 b, .int .i64 c, .bool x, .bool y, .bool z, .int .i64 g, .int .i64 h]) 2).run Try.prog w = .ok (.int .i64 c) w := by kernel_rfl
theorem view_left (a b c g h : Int) (x y z : Bool) (w : World) : (Instr.field 57 (.agg #[.int .i64 a, .int .i64 b, .int .i64 c, .bool x, .bool y, .bool z, .int .i64 g, .int .i64 h]) 7).run Try.prog w = .ok (.int .i64 h) w := by kernel_rfl

theorem f_come_to' {f : Nat} {s s' : Fl} {n x : Int} {w0 w : World} {R : HP} (h : St w0 w (FAt TF TQ f s * R)) (e : s.come n = (s', x)) :
    Calls Try.prog 38 #[ptr f, .int .i64 n] w fun e w' => e = .returned (.int .i64 x) ∧ St w0 w' (FAt TF TQ f s' * R) := by
  have := f_come f s n w0 w R h
  rw [e] at this
  exact this

/-- The list of what is lost. -/
theorem lostscript {w : World} {a : Option Addr} {len cap : Nat} (h : (Sh.slice (.bool)).ok w [.slice a len cap]) :
    len ≤ cap ∧ cap ≤ maxLen ∧ (0 < len → ∃ b off, a = some ⟨b, off, none⟩ ∧ b < w.heap.size ∧ ∀ i, i < len → ∃ x : Bool, w.cell? ⟨b, off + i, none⟩ = some (.bool x)) := by
  obtain ⟨h1, h2, h3⟩ := Sh.slice_ok h (by decide)
  refine ⟨h1, h2, fun h0 => ?_⟩
  obtain ⟨b, off, e, hb, hi⟩ := h3 h0
  refine ⟨b, off, e, hb, fun i hlt => ?_⟩
  obtain ⟨xs, _, hc, hx⟩ := hi i hlt
  obtain ⟨x, rfl⟩ := hx
  exact ⟨x, by have := hc 0 (by decide); simpa [Sh.size] using this⟩

theorem carries_drop (p b i : Nat) (hi : i < 3000) (a : Option Addr) (len cap : Nat) (w0 w : World) (X Y : HP) (hl : (Sh.slice (.bool)).ok w0 [.slice a len cap])
    (h : St w0 w (blk p (.cells #[.int .i64 i] 3 (0, 0)) * (blk b (.cells #[.slice a len cap] 49 (0, 0)) * (X * (Y * Old w0))))) :
    Calls Try.prog 33 #[ptr p, ptr b] w fun e w' => ∃ x : Bool, e = .returned (.bool x) ∧ (500 ≤ i → x = false) ∧ St w0 w' (blk p (.cells #[.int .i64 ((i : Int) + 1)] 3 (0, 0)) * (blk b (.cells #[.slice a len cap] 49 (0, 0)) * (X * (Y * Old w0)))) := by
  obtain ⟨l1, l2, l3⟩ := lostscript hl
  unfold maxLen at l2
  have c := h.cell
  have f := h.free
  have h1 : St w0 _ (blk p (.cells #[.int .i64 ((i : Int) + 1)] 3 (0, 0)) * (blk b (.cells #[.slice a len cap] 49 (0, 0)) * (X * (Y * Old w0)))) := h.set 0 (.int .i64 ((i : Int) + 1))
  have e1 : IntKind.i64.wrap ((i : Int) + 1) = ((i : Int) + 1) := by rw [IntKind.wrap_i64]; omega
  have e2 : IntKind.i64.wrap (((i : Int) + 1) - 1) = (i : Int) := by rw [IntKind.wrap_i64]; omega
  have e3 : ((i : Int) + 1) - 1 = (i : Int) := by omega
  have c1 := h1.cell
  have c2 := (h1.eq (star_left_comm _ _ _)).cell
  by_cases b1 : (i : Int) + 1 ≤ len
  · have b3 : i < len := by omega
    by_cases b2 : (i : Int) + 1 ≤ 500
    · obtain ⟨g, off, rfl, hb, hx⟩ := l3 (by omega)
      obtain ⟨x, hc⟩ := hx i (by omega)
      have hbel := (h1.eq (show _ = Old w0 * (blk p (.cells #[.int .i64 ((i : Int) + 1)] 3 (0, 0)) * (blk b (.cells #[.slice (some ⟨g, off, none⟩) len cap] 49 (0, 0)) * (X * Y))) by ac_rfl)).old
      have d0 := (hbel.cell (p := ⟨g, off + i, none⟩) hb).trans hc
      clear hl hbel l3
      go_enter Try.func33, Try.ntmps33
      go_wp2
      go_ret
      exact ⟨_, rfl, by omega, h1⟩
    · clear hl l3
      go_enter Try.func33, Try.ntmps33
      go_wp2
      go_ret
      first | exact ⟨_, rfl, by simp, h1⟩ | exact .inl ⟨rfl, h1⟩
  · clear hl l3
    go_enter Try.func33, Try.ntmps33
    go_wp2
    go_ret
    first | exact ⟨_, rfl, by simp, h1⟩ | exact .inl ⟨rfl, h1⟩
end Go.Proofs.Ytopjbiiddaoklaa
