/- QueueLists: the walk. -/
import Derived.Test.YtopjbiiddaoklaaWQueueAct
namespace Go.Proofs.Ytopjbiiddaoklaa
open Go.RowKit

theorem push_cases (q : Q) (s : ByteArray) : q.push s = (q, 5) ∨ q.push s = (q, 10) ∨ q.push s = ({ q with l := q.l ++ [s] }, 0) := by
  unfold Q.push
  split
  · exact .inl rfl
  · split
    · exact .inr (.inl rfl)
    · exact .inr (.inr rfl)
theorem take_most (q : Q) : q.take.1.most = q.most := by unfold Q.take; split <;> rfl
theorem done_most (q : Q) (n : Int) : (q.done n).1.most = q.most := by unfold Q.done; split <;> rfl
theorem back_most (q : Q) (n : Int) : (q.back n).1.most = q.most := by unfold Q.back; split <;> rfl

set_option maxHeartbeats 1600000 in
theorem QueueLists.walk (a0 : Option Addr) (len0 cap0 : Nat) (w : World) (w0 : (Sh.slice QActSh).ok w [.slice a0 len0 cap0]) :
    Calls Try.prog 5 #[.slice a0 len0 cap0] w fun e w' => e = .returned (.bool true) ∧ Below w.heap.size w w' := by
  obtain ⟨l1, l2, l3⟩ := qscript w0
  unfold maxLen at l2
  go_enter Try.func5, Try.ntmps5
  go_wp2_with fail
  refine (q_new 7 w w _ (St.start w)).mono ?_
  rintro e w1 ⟨p, rfl, h1⟩
  change St w w1 (QAt 78 p ⟨7, [], 0⟩ * Old w) at h1
  go_upto_region 2 with fail
  go_cut [13, 14, 15] (fun s13 s14 s15 wx => ∃ n : Nat, n ≤ len0 ∧ s13 = .slice a0 n cap0 ∧ s14 = .int .i64 n ∧ s15 = .int .i64 0 ∧ wx = w1)
  case first =>
    go_wp2
    all_goals (go_meet; first | exact ⟨len0, Nat.le_refl _, rfl, rfl, rfl, rfl⟩ | exact ⟨100, by omega, rfl, rfl, rfl, rfl⟩)
  case rest =>
    obtain ⟨n, hn, rfl, rfl, rfl, rfl⟩ := hcut
    go_wp2
    go_loopw [15] (fun i wr => ∃ (k : Nat) (q : Q), k ≤ n ∧ i = .int .i64 k ∧ q.Ok ∧ q.most = 7 ∧ St w wr (QAt 78 p q * Old w)) (fun i _ => n - (intOf i).toNat)
    case atStart => exact ⟨0, ⟨7, [], 0⟩, by omega, rfl, ⟨by decide, by decide, by decide, by decide⟩, rfl, h1⟩
    case round =>
      obtain ⟨k, q, hk, rfl, ok, q7, h2⟩ := hrel
      by_cases hlt : k < n
      · obtain ⟨b, off, rfl, hb, hi⟩ := l3 (by omega)
        obtain ⟨x, fx, c0, c1, c2, c3⟩ := hi k (by omega)
        have hbel := (h2.eq (star_comm _ _)).old
        have d0 := (hbel.cell (p := ⟨b, off + k * 4, none⟩) hb).trans c0
        have d1 := (hbel.cell (p := ⟨b, off + k * 4 + 1, none⟩) hb).trans c1
        have d2 := (hbel.cell (p := ⟨b, off + k * 4 + 2, none⟩) hb).trans c2
        have d3 := (hbel.cell (p := ⟨b, off + k * 4 + 3, none⟩) hb).trans c3
        clear hi l3
        have h2 := h2.alloc (.cells #[.int .i64 x.Do, .int .i64 x.N, .int .i64 x.Often, .string x.Data] 29)
        go_upto_region 5 with fail
        go_wp2_with fail
        refine (q_list p q w _ _ (h2.eq (star_left_comm _ _ _)) ok).mono ?_
        rintro e w2 ⟨v, rfl, h3⟩
        obtain ⟨a, cap, rfl, _, _⟩ := h3.row_shape
        have h4 := h3.drop.eq (show _ = blk wr.heap.size _ * (QAt _ p q * Old w) by ac_rfl)
        have e0 := h4.cell
        generalize wr.heap.size = g at *
        clear h2 h3
        generalize hd : x.Do.tmod 6 = d at *
        have Hd := Lib.hid hd
        clear hd
        go_wp2_with fail
        all_goals
          have h5 := h4.drop
          clear e0 d0 d1 d2 d3 c0 c1 c2 c3
        · refine (q_take p q w _ _ h5 ok).mono ?_
          rintro e w3 ⟨rfl, h6⟩
          have ok' := ok.take
          have q7' := (take_most q).trans q7
          generalize q.take.1 = q' at *
          have Q7 := Lib.hid q7'
          have n2 := ok'.sl
          have n5 : q'.l.length ≤ 7 := by have := ok'.ll; omega
          clear q7' q7
          go_wp2_with fail
          refine (q_sent p q' w _ _ h6).mono ?_
          rintro e w4 ⟨rfl, rfl⟩
          go_wp2_with fail
          refine (q_left p q' w _ _ h6 ok').mono ?_
          rintro e w4 ⟨rfl, nq, rfl⟩
          have h7 := h6.drewN nq
          generalize w3.drewN nq = w5 at *
          go_wp2_with fail
          refine (q_list p q' w _ _ h7 ok').mono ?_
          rintro e w6 ⟨v, rfl, h8⟩
          obtain ⟨a2, cap2, rfl, _, _⟩ := h8.row_shape
          go_wp2_with fail
          refine (q_list p q' w _ _ h8.drop ok').mono ?_
          rintro e w7 ⟨v2, rfl, h9⟩
          obtain ⟨a3, cap3, rfl, _, _⟩ := h9.row_shape
          go_wp2_with fail
          refine (q_sent p q' w _ _ h9.drop).mono ?_
          rintro e w8 ⟨rfl, rfl⟩
          go_wp2_with fail
          refine (q_left p q' w _ _ h9.drop ok').mono ?_
          rintro e w8 ⟨rfl, nq2, rfl⟩
          go_wp2
          go_roundw
          case rel => exact ⟨k + 1, q', by omega, by go_num, ok', Q7.out, h9.drop.drewN _⟩
          case measure => simp [intOf]; omega
        · refine (q_done p q _ w _ _ h5 ok).mono ?_
          rintro e w3 ⟨rfl, h6⟩
          have ok' := ok.done x.N
          have q7' := (done_most q x.N).trans q7
          generalize (q.done x.N).1 = q' at *
          have Q7 := Lib.hid q7'
          have n2 := ok'.sl
          have n5 : q'.l.length ≤ 7 := by have := ok'.ll; omega
          clear q7' q7
          go_wp2_with fail
          refine (q_sent p q' w _ _ h6).mono ?_
          rintro e w4 ⟨rfl, rfl⟩
          go_wp2_with fail
          refine (q_left p q' w _ _ h6 ok').mono ?_
          rintro e w4 ⟨rfl, nq, rfl⟩
          have h7 := h6.drewN nq
          generalize w3.drewN nq = w5 at *
          go_wp2_with fail
          refine (q_list p q' w _ _ h7 ok').mono ?_
          rintro e w6 ⟨v, rfl, h8⟩
          obtain ⟨a2, cap2, rfl, _, _⟩ := h8.row_shape
          go_wp2_with fail
          refine (q_list p q' w _ _ h8.drop ok').mono ?_
          rintro e w7 ⟨v2, rfl, h9⟩
          obtain ⟨a3, cap3, rfl, _, _⟩ := h9.row_shape
          go_wp2_with fail
          refine (q_sent p q' w _ _ h9.drop).mono ?_
          rintro e w8 ⟨rfl, rfl⟩
          go_wp2_with fail
          refine (q_left p q' w _ _ h9.drop ok').mono ?_
          rintro e w8 ⟨rfl, nq2, rfl⟩
          go_wp2
          go_roundw
          case rel => exact ⟨k + 1, q', by omega, by go_num, ok', Q7.out, h9.drop.drewN _⟩
          case measure => simp [intOf]; omega
        · refine (q_back p q _ w _ _ h5).mono ?_
          rintro e w3 ⟨rfl, h6⟩
          have ok' := ok.back x.N
          have q7' := (back_most q x.N).trans q7
          generalize (q.back x.N).1 = q' at *
          have Q7 := Lib.hid q7'
          have n2 := ok'.sl
          have n5 : q'.l.length ≤ 7 := by have := ok'.ll; omega
          clear q7' q7
          go_wp2_with fail
          refine (q_sent p q' w _ _ h6).mono ?_
          rintro e w4 ⟨rfl, rfl⟩
          go_wp2_with fail
          refine (q_left p q' w _ _ h6 ok').mono ?_
          rintro e w4 ⟨rfl, nq, rfl⟩
          have h7 := h6.drewN nq
          generalize w3.drewN nq = w5 at *
          go_wp2_with fail
          refine (q_list p q' w _ _ h7 ok').mono ?_
          rintro e w6 ⟨v, rfl, h8⟩
          obtain ⟨a2, cap2, rfl, _, _⟩ := h8.row_shape
          go_wp2_with fail
          refine (q_list p q' w _ _ h8.drop ok').mono ?_
          rintro e w7 ⟨v2, rfl, h9⟩
          obtain ⟨a3, cap3, rfl, _, _⟩ := h9.row_shape
          go_wp2_with fail
          refine (q_sent p q' w _ _ h9.drop).mono ?_
          rintro e w8 ⟨rfl, rfl⟩
          go_wp2_with fail
          refine (q_left p q' w _ _ h9.drop ok').mono ?_
          rintro e w8 ⟨rfl, nq2, rfl⟩
          go_wp2
          go_roundw
          case rel => exact ⟨k + 1, q', by omega, by go_num, ok', Q7.out, h9.drop.drewN _⟩
          case measure => simp [intOf]; omega
        · rcases push_cases q x.Data with hp | hp | hp
          · have ok' := ok.push x.Data
            refine (q_push_to h5 ok hp).mono ?_
            rintro e w3 ⟨rfl, h6⟩
            rw [hp] at ok'
            obtain ⟨q', hq'⟩ : ∃ q', q = q' := ⟨_, rfl⟩
            simp only [hq'] at h6 ok'
            have hlen : q'.l.length = q.l.length + 0 := by rw [← hq']; simp
            have hmost : q'.most = q.most := by rw [← hq']
            have q7' := hmost.trans q7
            clear hmost hp hq'
            have n2 := ok.sl
            have n5 : q.l.length ≤ 7 := by have := ok.ll; omega
            have hb1 : ((q'.l.length : Int) == (q.l.length : Int) + 1) = false := by simp; omega
            have Q7 := Lib.hid q7'
            clear q7' q7 hlen
            go_wp2_with fail
            refine (q_list p q' w _ _ h6 ok').mono ?_
            rintro e w3 ⟨v0, rfl, h6⟩
            obtain ⟨a9, cap9, rfl, _, _⟩ := h6.row_shape
            replace h6 := h6.drop
            go_wp2_with fail
            all_goals first | (exfalso; have hx : (!((q'.l.length : Int) == (q.l.length : Int) + 1)) = true := (by assumption); rw [hb1] at hx; cases hx; done) | skip
            clear n2 n5 hb1
            have q7' := Q7.out
            have q7 := q7'
            clear Q7
            have Q7 := Lib.hid q7'
            have n2 := ok'.sl
            have n5 : q'.l.length ≤ 7 := by have := ok'.ll; omega
            clear q7' q7
            go_wp2_with fail
            refine (q_sent p q' w _ _ h6).mono ?_
            rintro e w4 ⟨rfl, rfl⟩
            go_wp2_with fail
            refine (q_left p q' w _ _ h6 ok').mono ?_
            rintro e w4 ⟨rfl, nq, rfl⟩
            have h7 := h6.drewN nq
            generalize w3.drewN nq = w5 at *
            go_wp2_with fail
            refine (q_list p q' w _ _ h7 ok').mono ?_
            rintro e w6 ⟨v, rfl, h8⟩
            obtain ⟨a2, cap2, rfl, _, _⟩ := h8.row_shape
            go_wp2_with fail
            refine (q_list p q' w _ _ h8.drop ok').mono ?_
            rintro e w7 ⟨v2, rfl, h9⟩
            obtain ⟨a3, cap3, rfl, _, _⟩ := h9.row_shape
            go_wp2_with fail
            refine (q_sent p q' w _ _ h9.drop).mono ?_
            rintro e w8 ⟨rfl, rfl⟩
            go_wp2_with fail
            refine (q_left p q' w _ _ h9.drop ok').mono ?_
            rintro e w8 ⟨rfl, nq2, rfl⟩
            go_wp2
            go_roundw
            case rel => exact ⟨k + 1, q', by omega, by go_num, ok', Q7.out, h9.drop.drewN _⟩
            case measure => simp [intOf]; omega
          · have ok' := ok.push x.Data
            refine (q_push_to h5 ok hp).mono ?_
            rintro e w3 ⟨rfl, h6⟩
            rw [hp] at ok'
            obtain ⟨q', hq'⟩ : ∃ q', q = q' := ⟨_, rfl⟩
            simp only [hq'] at h6 ok'
            have hlen : q'.l.length = q.l.length + 0 := by rw [← hq']; simp
            have hmost : q'.most = q.most := by rw [← hq']
            have q7' := hmost.trans q7
            clear hmost hp hq'
            have n2 := ok.sl
            have n5 : q.l.length ≤ 7 := by have := ok.ll; omega
            have hb1 : ((q'.l.length : Int) == (q.l.length : Int) + 1) = false := by simp; omega
            have Q7 := Lib.hid q7'
            clear q7' q7 hlen
            go_wp2_with fail
            refine (q_list p q' w _ _ h6 ok').mono ?_
            rintro e w3 ⟨v0, rfl, h6⟩
            obtain ⟨a9, cap9, rfl, _, _⟩ := h6.row_shape
            replace h6 := h6.drop
            go_wp2_with fail
            all_goals first | (exfalso; have hx : (!((q'.l.length : Int) == (q.l.length : Int) + 1)) = true := (by assumption); rw [hb1] at hx; cases hx; done) | skip
            clear n2 n5 hb1
            have q7' := Q7.out
            have q7 := q7'
            clear Q7
            have Q7 := Lib.hid q7'
            have n2 := ok'.sl
            have n5 : q'.l.length ≤ 7 := by have := ok'.ll; omega
            clear q7' q7
            go_wp2_with fail
            refine (q_sent p q' w _ _ h6).mono ?_
            rintro e w4 ⟨rfl, rfl⟩
            go_wp2_with fail
            refine (q_left p q' w _ _ h6 ok').mono ?_
            rintro e w4 ⟨rfl, nq, rfl⟩
            have h7 := h6.drewN nq
            generalize w3.drewN nq = w5 at *
            go_wp2_with fail
            refine (q_list p q' w _ _ h7 ok').mono ?_
            rintro e w6 ⟨v, rfl, h8⟩
            obtain ⟨a2, cap2, rfl, _, _⟩ := h8.row_shape
            go_wp2_with fail
            refine (q_list p q' w _ _ h8.drop ok').mono ?_
            rintro e w7 ⟨v2, rfl, h9⟩
            obtain ⟨a3, cap3, rfl, _, _⟩ := h9.row_shape
            go_wp2_with fail
            refine (q_sent p q' w _ _ h9.drop).mono ?_
            rintro e w8 ⟨rfl, rfl⟩
            go_wp2_with fail
            refine (q_left p q' w _ _ h9.drop ok').mono ?_
            rintro e w8 ⟨rfl, nq2, rfl⟩
            go_wp2
            go_roundw
            case rel => exact ⟨k + 1, q', by omega, by go_num, ok', Q7.out, h9.drop.drewN _⟩
            case measure => simp [intOf]; omega
          · have ok' := ok.push x.Data
            refine (q_push_to h5 ok hp).mono ?_
            rintro e w3 ⟨rfl, h6⟩
            rw [hp] at ok'
            obtain ⟨q', hq'⟩ : ∃ q', ({ q with l := q.l ++ [x.Data] } : Q) = q' := ⟨_, rfl⟩
            simp only [hq'] at h6 ok'
            have hlen : q'.l.length = q.l.length + 1 := by rw [← hq']; simp
            have hmost : q'.most = q.most := by rw [← hq']
            have q7' := hmost.trans q7
            clear hmost hp hq'
            have n2 := ok.sl
            have n5 : q.l.length ≤ 7 := by have := ok.ll; omega
            have hb1 : ((q'.l.length : Int) == (q.l.length : Int) + 1) = true := by simp; omega
            have Q7 := Lib.hid q7'
            clear q7' q7 hlen
            go_wp2_with fail
            refine (q_list p q' w _ _ h6 ok').mono ?_
            rintro e w3 ⟨v0, rfl, h6⟩
            obtain ⟨a9, cap9, rfl, _, _⟩ := h6.row_shape
            replace h6 := h6.drop
            go_wp2_with fail
            all_goals first | (exfalso; have hx : (!((q'.l.length : Int) == (q.l.length : Int) + 1)) = true := (by assumption); rw [hb1] at hx; cases hx; done) | skip
            clear n2 n5 hb1
            have q7' := Q7.out
            have q7 := q7'
            clear Q7
            have Q7 := Lib.hid q7'
            have n2 := ok'.sl
            have n5 : q'.l.length ≤ 7 := by have := ok'.ll; omega
            clear q7' q7
            go_wp2_with fail
            refine (q_sent p q' w _ _ h6).mono ?_
            rintro e w4 ⟨rfl, rfl⟩
            go_wp2_with fail
            refine (q_left p q' w _ _ h6 ok').mono ?_
            rintro e w4 ⟨rfl, nq, rfl⟩
            have h7 := h6.drewN nq
            generalize w3.drewN nq = w5 at *
            go_wp2_with fail
            refine (q_list p q' w _ _ h7 ok').mono ?_
            rintro e w6 ⟨v, rfl, h8⟩
            obtain ⟨a2, cap2, rfl, _, _⟩ := h8.row_shape
            go_wp2_with fail
            refine (q_list p q' w _ _ h8.drop ok').mono ?_
            rintro e w7 ⟨v2, rfl, h9⟩
            obtain ⟨a3, cap3, rfl, _, _⟩ := h9.row_shape
            go_wp2_with fail
            refine (q_sent p q' w _ _ h9.drop).mono ?_
            rintro e w8 ⟨rfl, rfl⟩
            go_wp2_with fail
            refine (q_left p q' w _ _ h9.drop ok').mono ?_
            rintro e w8 ⟨rfl, nq2, rfl⟩
            go_wp2
            go_roundw
            case rel => exact ⟨k + 1, q', by omega, by go_num, ok', Q7.out, h9.drop.drewN _⟩
            case measure => simp [intOf]; omega
      · go_wp2_with fail
        refine (q_wakes w _ _ h2).mono ?_
        rintro e w2 ⟨rfl, h3⟩
        go_wp2
        go_ret
        exact ⟨rfl, h3.drop.old0⟩
end Go.Proofs.Ytopjbiiddaoklaa
