/- The pool's list. -/
import Derived.Test.YtbnbknabedgpcaaPool
namespace Go.Proofs.Ytbnbknabedgpcaa
open Go.RowKit

/-- The TEIs that are assigned, among the first k. -/
def Pl.upto (s : Pl) (k : Nat) : List Nat := (List.range k).filter fun i => s.on.testBit i
abbrev teis (l : List Nat) : List Value := l.map fun (i : Nat) => Value.int .i64 (64 + (i : Int))
theorem upto_succ (s : Pl) (k : Nat) : s.upto (k + 1) = if s.on.testBit k then s.upto k ++ [k] else s.upto k := by
  unfold Pl.upto
  rw [List.range_succ, List.filter_append]
  cases h : s.on.testBit k <;> simp [h]
theorem upto_len (s : Pl) (k : Nat) : (s.upto k).length ≤ k := by
  have := List.length_filter_le (fun i => s.on.testBit i) (List.range k)
  simpa [Pl.upto] using this
theorem infoInt : (Try.prog.info? 3).map (fun i => (i.zero, i.size, i.bytes)) = some (some (.int .i64 0), 1, 8) := by kernel_rfl

set_option maxRecDepth 100000 in
set_option maxHeartbeats 800000 in
theorem p_list (p : Nat) (s : Pl) (w0 w : World) (R : HP) (h : St w0 w (PAt p s * R)) (hn : s.on < 2 ^ 63) :
    Calls Try.prog 47 #[ptr p] w fun e w' => ∃ v, e = .returned v ∧ St w0 w' (Row 3 1 v (s.upto 63).length (teis (s.upto 63)) * (PAt p s * R)) := by
  obtain ⟨i0, hi, hz0, hz1, hz2⟩ := info_parts infoInt
  go_enter Try.func47, Try.ntmps47
  go_wp2
  go_loopw [3, 4] (fun v i wr => ∃ k : Nat, k ≤ 63 ∧ i = .int .i64 (64 + (k : Int)) ∧ St w0 wr (Row 3 1 v (s.upto k).length (teis (s.upto k)) * (PAt p s * R))) (fun _ i _ => 127 - (intOf i).toNat)
  case atStart => exact ⟨0, by omega, rfl, by simpa [Pl.upto] using h.row_nil 3 1⟩
  case round =>
    clear h
    obtain ⟨k, hk, rfl, h1⟩ := hrel
    obtain ⟨a, cap, rfl, _, _⟩ := h1.row_shape
    have hlen := upto_len s k
    by_cases hlt : k < 63
    · have hh : s.has (64 + (k : Int)) = s.on.testBit k := by
        unfold Pl.has
        rw [show (64 + (k : Int)).toNat - 64 = k by omega, show decide (64 ≤ 64 + (k : Int) ∧ 64 + (k : Int) ≤ 126) = true by simp; omega, Bool.true_and]
      go_wp2_with fail
      refine (p_has p s _ _ _ _ (h1.eq (star_left_comm _ _ _)) hn).mono ?_
      rintro e w1 ⟨rfl, nq, rfl⟩
      rw [hh]
      have h2 := h1.drewN nq
      generalize wr.drewN nq = w1 at *
      have hu := upto_succ s k
      cases hb : s.on.testBit k
      · rw [hb] at hu
        simp only [Bool.false_eq_true, if_false] at hu
        have h3 := h2
        rw [← hu] at h3
        have H3 := Lib.hid h3
        have HU := Lib.hid (congrArg List.length hu)
        clear h1 h2 h3 hu hh
        go_wp2
        go_roundw
        case rel => exact ⟨k + 1, by omega, by go_num, by rw [← HU.out]; exact H3.out⟩
        case measure => simp [intOf]; omega
      · rw [hb] at hu
        simp only [if_true] at hu
        have h3 : St w0 (w1.alloc (.cells #[.int .i64 (64 + (k : Int))] 3)) (Row 3 1 (.slice a (s.upto k).length cap) (s.upto k).length (teis (s.upto k)) * (PAt p s * R)) := (h2.alloc _).drop
        have H3 := Lib.hid h3
        have HU := Lib.hid hu
        clear h1 h2 h3 hu hh
        go_wp2_with (at_builtin; refine wpList_append_row rfl (.tmp 12) (.tmp 14) 22 rfl H3.out Try.underlying22 hi hz0 hz1 hz2 rfl (by decide) rfl ⟨w1.heap.size, 0, none⟩ 1 1 [.int .i64 (64 + (k : Int))] rfl (by decide) rfl ?c1 ?c2 ?c3 ?c4 ?c5)
        case c1 => exact one_new _ _ _ _ rfl
        case c2 => intro u hu; simp at hu; subst hu; rfl
        case c3 => unfold maxLen; omega
        case c4 => omega
        case c5 =>
          intro g off cap1 w2 h4
          go_wp2
          go_roundw
          case rel => exact ⟨k + 1, by omega, by go_num, by rw [HU.out]; simpa [teis] using h4⟩
          case measure => simp [intOf]; omega
    · obtain rfl : k = 63 := by omega
      go_wp2
      go_ret
      exact ⟨_, rfl, h1⟩
end Go.Proofs.Ytbnbknabedgpcaa
