/- The flow laws' walks, further: FlowAnew. -/
import Derived.Test.YtopjbiiddaoklaaWFlowRefuses
namespace Go.Proofs.Ytopjbiiddaoklaa
open Go.RowKit

/-- The flow behind a Reset, with i of its payloads sent and answered. -/
def anew (k : Int) (m : Nat) (l : List ByteArray) (i : Nat) : Fl := ⟨i % 128, i % 128, 0, false, false, false, k, ⟨m, l.drop i, 0⟩⟩
def anewT (k : Int) (m : Nat) (l : List ByteArray) (i : Nat) : Fl := ⟨(i + 1) % 128, i % 128, 0, false, false, false, k, ⟨m, l.drop i, 1⟩⟩

theorem anew_ok {s : Fl} (ok : s.Ok) (i : Nat) : (anew s.k s.q.most s.q.l i).Ok := by
  obtain ⟨_, _, _, ⟨q1, q2, q3, _⟩, _, _⟩ := ok
  refine ⟨?_, ?_, ?_, ⟨q1, q2, ?_, ?_⟩, ?_, ?_⟩
  all_goals simp only [anew, List.length_drop]
  all_goals omega
theorem anewT_ok {s : Fl} (ok : s.Ok) (i : Nat) (h : i < s.q.l.length) : (anewT s.k s.q.most s.q.l i).Ok := by
  obtain ⟨_, _, _, ⟨q1, q2, q3, _⟩, _, _⟩ := ok
  refine ⟨?_, ?_, ?_, ⟨q1, q2, ?_, ?_⟩, ?_, ?_⟩
  all_goals simp only [anewT, List.length_drop]
  all_goals omega
theorem anew_reset (s : Fl) : s.reset = anew s.k s.q.most s.q.l 0 := by
  unfold Fl.reset anew
  rw [back0_sent]
  rfl
theorem anew_take (k : Int) (m : Nat) (l : List ByteArray) (i : Nat) (h : i < l.length) : (anew k m l i).take = (anewT k m l i, i % 128, l[i], true) := by
  unfold Fl.take
  rw [if_neg (by simp only [anew, roomOf, List.length_drop]; simp; omega)]
  have e1 : Q.take ⟨m, l.drop i, 0⟩ = (⟨m, l.drop i, 1⟩, l[i], true) := by
    unfold Q.take
    rw [if_pos (by simp; omega)]
    simp [List.getD, h]
  simp only [anew, anewT, e1]
  congr 2
  omega
theorem anew_end (k : Int) (m : Nat) (l : List ByteArray) : (anew k m l l.length).take = (anew k m l l.length, 0, ⟨#[]⟩, false) := by
  unfold Fl.take
  rw [if_pos (by simp [anew])]
theorem anew_ack (k : Int) (m : Nat) (l : List ByteArray) (i : Nat) : (anewT k m l i).ack (((i % 128 : Nat) : Int) + 1) = (anew k m l (i + 1), 1, 0) := by
  have e1 : (((i % 128 : Nat) : Int) + 1 - ((i % 128 : Nat) : Int)) % 128 = 1 := by omega
  have e2 : ((((i % 128 : Nat) : Int) + 1) % 128).toNat = (i + 1) % 128 := by omega
  unfold Fl.ack
  rw [if_pos (by simp only [anewT]; omega)]
  simp only [anewT, anew]
  rw [e1, e2]
  unfold Q.done
  rw [if_neg (by simp)]
  simp [Nat.add_comm]

set_option maxRecDepth 100000 in
set_option maxHeartbeats 1600000 in
theorem FlowAnew.walk (a0 : Int) (a1 : Option Addr) (len1 cap1 : Nat) (w : World) (_w0 : (Lit.int .i64 a0).wf = true) (w1 : (Sh.slice FActSh).ok w [.slice a1 len1 cap1]) :
    Calls Try.prog 14 #[.int .i64 a0, .slice a1 len1 cap1] w fun e w' => e = .returned (.bool true) ∧ Below w.heap.size w w' := by
  obtain ⟨l1, l2, l3⟩ := fscript w1
  unfold maxLen at l2
  have hEq := view_eqi
  have hGd := view_guard
  go_enter Try.func14, Try.ntmps14
  go_wp2_with fail
  refine (f_new _ _ _ _ _ (St.start _)).mono ?_
  rintro e w2 ⟨f, rfl, h1⟩
  go_wp2_with fail
  refine (g_new _ _ _ _ _ h1).mono ?_
  rintro e wz ⟨r, rfl, h3⟩
  have h3 := h3.eq (star_left_comm _ _ _)
  have ok0 := Fl.Ok.new a0 (50 : Int)
  have k0 : Fl.k ⟨0, 0, 0, false, false, false, a0, ⟨(max 1 (min (50 : Int) 256)).toNat, [], 0⟩⟩ = a0 := rfl
  generalize (⟨0, 0, 0, false, false, false, a0, ⟨(max 1 (min (50 : Int) 256)).toNat, [], 0⟩⟩ : Fl) = s0 at *
  have K0 := Lib.hid k0
  clear h1 k0
  go_upto_region 2 with fail
  go_cut [28, 29, 30] (fun s33 s34 s35 wx => ∃ m : Nat, m ≤ len1 ∧ m ≤ 100 ∧ s33 = .slice a1 m cap1 ∧ s34 = .int .i64 m ∧ s35 = .int .i64 0 ∧ wz = wx)
  case first =>
    go_wp2
    all_goals (go_meet; first | exact ⟨len1, Nat.le_refl _, by omega, rfl, rfl, rfl, rfl⟩ | exact ⟨100, by omega, by omega, rfl, rfl, rfl, rfl⟩)
  case rest =>
  obtain ⟨m, hm, _, rfl, rfl, rfl, rfl⟩ := hcut
  go_wp2
  go_loopw [30] (fun i wr => ∃ (k : Nat) (s : Fl), k ≤ m ∧ i = .int .i64 k ∧ s.Ok ∧ Hid (s.k = a0) ∧ St w wr (FAt TF TQ f s * (FAt TG TR r s * Old w))) (fun i _ => m - (intOf i).toNat)
  case atStart => exact ⟨0, s0, by omega, rfl, ok0, K0, h3⟩
  case round =>
    clear h3 ok0 K0
    obtain ⟨k, s, hk, rfl, ok, K0, h3⟩ := hrel
    by_cases hlt : k < m
    · obtain ⟨b, off, rfl, hb, hi⟩ := l3 (by omega)
      obtain ⟨x, c0, c1, c2, c3, c4⟩ := hi k (by omega)
      have hbel := (h3.eq (show _ = Old w * (FAt TF TQ f s * FAt TG TR r s) by ac_rfl)).old
      have d0 := (hbel.cell (p := ⟨b, off + k * 5, none⟩) hb).trans c0
      have d1 := (hbel.cell (p := ⟨b, off + k * 5 + 1, none⟩) hb).trans c1
      have d2 := (hbel.cell (p := ⟨b, off + k * 5 + 2, none⟩) hb).trans c2
      have d3 := (hbel.cell (p := ⟨b, off + k * 5 + 3, none⟩) hb).trans c3
      have d4 := (hbel.cell (p := ⟨b, off + k * 5 + 4, none⟩) hb).trans c4
      clear hi l3 c0 c1 c2 c3 c4
      have h4 := ((h3.alloc (.cells x.cells 67)).eq (show _ = blk _ _ * (FAt TF TQ f s * (FAt TG TR r s * Old w)) from rfl)).drop
      go_wp2_with fail
      refine (fl_act f r s x w _ _ h4 ok).mono ?_
      rintro e w5 ⟨rfl, s', ok', lk, h5⟩
      have K1 : Hid (s'.k = a0) := Lib.hid (lk.k.trans K0.out)
      go_wp2
      go_roundw
      case rel => exact ⟨k + 1, s', by omega, by go_num, ok', K1, h5⟩
      case measure => simp [intOf]; omega
    · clear l3 K0
      obtain ⟨rq, hr⟩ := (h3.eq (star_left_comm _ _ _)).f_open
      obtain ⟨lv, hq⟩ := (hr.eq (star_left_comm _ _ _)).q_open
      obtain ⟨ra, rc, rfl, e1, e2⟩ := hq.drop.row_shape
      have cr := hr.cell
      have cq := hq.cell
      have h4 : St w wr (FAt TF TQ f s * (FAt TG TR r s * Old w)) := h3
      obtain ⟨i0, hi, hz0, hz1, hz2⟩ := info_parts infoStr
      have m3 := ok.q.len
      go_upto_region 7 with fail
      go_cut [9] (fun s9 wx => ∃ (a : Option Addr) (cap : Nat), s9 = .slice a s.q.l.length cap ∧ s.q.l.length ≤ cap ∧ cap ≤ maxLen ∧ St w wx (Row 9 1 s9 s.q.l.length (strs s.q.l) * (FAt TF TQ f s * (FAt TG TR r s * Old w))))
      case first =>
        clear hlt hk
        by_cases hl0 : s.q.l.length = 0
        · have hap := fun (wx : World) => run_append_none (P := Try.prog) (ty := 36) wx Try.underlying36 hi none ra 0 0 rc (Nat.le_refl _)
          have hs0 : strs s.q.l = [] := by rw [List.eq_nil_of_length_eq_zero hl0]; rfl
          have H4 := Lib.hid (h4.row_nil 9 1)
          have H0 := Lib.hid hs0
          clear h3 h4 hr hq hs0
          simp only [hl0] at cq hap ⊢
          cases ra
          all_goals
            go_wp2
            go_meet
            exact ⟨none, 0, by rw [hl0], by omega, Nat.zero_le _, by rw [H0.out, hl0]; exact H4.out⟩
        · rcases hq.drop.row with ⟨_, x0, x1, _⟩ | ⟨g, off, cap', cur, x0, b1, b2, b3, b4, hx⟩
          · omega
          simp only [Value.slice.injEq] at x0
          obtain ⟨rfl, _, rfl⟩ := x0
          have Hc : Hid (∀ j u, (strs s.q.l)[j]? = some u → wr.cell? ((⟨g, off, none⟩ : Addr).add j) = some u) := Lib.hid (by
            intro j u hj
            have := (List.getElem?_eq_some_iff.1 hj).1
            simp at this
            rw [add_none, hx.cell, b4 j (by omega)]
            exact hj)
          have H4 := Lib.hid (h4.row_nil 9 1)
          have H5 := Lib.hid (strs_one s.q.l)
          clear h3 h4 hr hq hx b4
          go_wp2_with (at_builtin; refine wpList_append_row rfl (.const (.slice none 0 0)) (.tmp 45) 36 rfl H4.out Try.underlying36 hi hz0 hz1 hz2 rfl (by decide) rfl ⟨g, off, none⟩ s.q.l.length rc (strs s.q.l) rfl ?c0 ?c6 ?c1 ?c2 ?c3 ?c4 ?c5)
          case c0 => omega
          case c6 => simp
          case c1 => exact Hc.out
          case c2 => exact H5.out
          case c3 => unfold maxLen; omega
          case c4 => omega
          case c5 =>
            intro g2 off2 cap2 w2 h5
            have hsh := h5.row_shape
            try simp only [Nat.zero_add, List.nil_append] at h5
            go_wp2
            go_meet
            obtain ⟨_, _, y0, y1, y2⟩ := hsh
            simp only [Value.slice.injEq] at y0
            obtain ⟨_, _, rfl⟩ := y0
            exact ⟨some ⟨g2, off2, none⟩, cap2, by simp, by omega, by omega, h5⟩
      case rest =>
      obtain ⟨la, lc, rfl, f1, f2, h5⟩ := hcut
      clear hlt hk h3 h4 hr hq cr cq
      unfold maxLen at f2
      have n6 := ok.q.len
      have hv : (anew s.k s.q.most s.q.l 0).view = #[.int .i64 0, .int .i64 0, .int .i64 0, .bool false, .bool false, .bool false, .int .i64 0, .int .i64 s.q.l.length] := by simp [Fl.view, anew]
      go_wp2_with fail
      refine (f_reset f s _ _ _ (h5.eq (star_left_comm _ _ _))).mono ?_
      rintro e w6 ⟨rfl, h6⟩
      rw [anew_reset] at h6
      go_wp2_with fail
      refine (f_wakes _ _ _ h6).mono ?_
      rintro e w7 ⟨rfl, h7⟩
      go_wp2_with fail
      refine (f_view_to h7 (anew_ok ok 0) hv).mono ?_
      rintro e w8 ⟨rfl, h8⟩
      clear h5 h6 h7
      go_wp2
      go_loopw [61] (fun i wr => ∃ k : Nat, k ≤ s.q.l.length ∧ i = .int .i64 k ∧ St w wr (FAt TF TQ f (anew s.k s.q.most s.q.l k) * (Row 9 1 (.slice la s.q.l.length lc) s.q.l.length (strs s.q.l) * (FAt TG TR r s * Old w)))) (fun i _ => s.q.l.length - (intOf i).toNat)
      case atStart => exact ⟨0, by omega, rfl, h8⟩
      case round =>
        clear h8
        obtain ⟨i, hi2, rfl, h9⟩ := hrel
        by_cases hlt : i < s.q.l.length
        · rcases (h9.eq (star_left_comm _ _ _)).row with ⟨_, z0, z1, _⟩ | ⟨g1, off1, cap1, cur1, z0, b1, b2, b3, b4, hr1⟩
          · omega
          simp only [Value.slice.injEq] at z0
          obtain ⟨rfl, _, rfl⟩ := z0
          have c1 : wr.cell? ⟨g1, off1 + i, none⟩ = some (.string s.q.l[i]) := by
            have := hr1.cell (off1 + i)
            rw [b4 _ (by omega)] at this
            exact this.trans (by simp [hlt])
          clear hr1 b4
          have t1 := anew_take s.k s.q.most s.q.l i hlt
          have t2 := anew_ack s.k s.q.most s.q.l i
          have x1 : ((i % 128 : Nat) : Int) = (i : Int) % 128 := by omega
          have x2 : (0 : Int) ≤ (i : Int) % 128 := by omega
          have x3 : (i : Int) % 128 < 128 := by omega
          rw [x1] at t2
          have T1 := Lib.hid t1
          have T2 := Lib.hid t2
          clear t1 t2
          generalize s.q.l[i] = d at *
          go_wp2_with fail
          refine (f_take_to h9 (anew_ok ok i) T1.out).mono ?_
          rintro e w10 ⟨rfl, h10⟩
          simp only [x1]
          go_wp2_with fail
          refine (f_ack_to h10 (anewT_ok ok i hlt) T2.out).mono ?_
          rintro e w11 ⟨rfl, h11⟩
          go_wp2
          go_roundw
          case rel => exact ⟨i + 1, by omega, by go_num, h11⟩
          case measure => simp [intOf]; omega
        · obtain rfl : i = s.q.l.length := by omega
          go_wp2_with fail
          refine (f_take_to h9 (anew_ok ok _) (anew_end _ _ _)).mono ?_
          rintro e w10 ⟨rfl, h10⟩
          go_wp2
          go_ret
          exact ⟨rfl, h10.drop.drop.drop.old0⟩
end Go.Proofs.Ytopjbiiddaoklaa
