/- QueueOrder: the walk. -/
import Derived.Test.YtopjbiiddaoklaaWQueueAct
namespace Go.Proofs.Ytopjbiiddaoklaa
open Go.RowKit

def byteStr (i : Nat) : ByteArray := ⟨#[UInt8.ofNat i]⟩

theorem byte_conv (wx : World) (k : Nat) (hk : k < 256) :
    (convert 27 9 (.slice (some ⟨wx.heap.size, 0, none⟩) 1 1)).run Try.prog (wx.alloc (.cells #[.int .u8 k] 5)) = .ok (.string (byteStr k)) (wx.alloc (.cells #[.int .u8 k] 5)) := by
  have := run_convert_bytes_back (P := Try.prog) (wx.alloc (.cells #[.int .u8 k] 5)) 27 9 5 ⟨wx.heap.size, 0, none⟩ 1 [UInt8.ofNat k] Try.underlying27 Try.underlying5 Try.underlying9 (by
    intro j hj
    have : j = 0 := by simpa using hj
    subst this
    have e : k % 256 = k := by omega
    simp [Addr.add, e])
  exact this

set_option maxRecDepth 100000 in
set_option maxHeartbeats 1600000 in
theorem QueueOrder.walk (a0 : Int) (a1 : Option Addr) (len1 cap1 : Nat) (w : World) (_w0 : (Lit.int .i64 a0).wf = true) (w1 : (Sh.slice QActSh).ok w [.slice a1 len1 cap1]) :
    Calls Try.prog 3 #[.int .i64 a0, .slice a1 len1 cap1] w fun e w' => e = .returned (.bool true) ∧ Below w.heap.size w w' := by
  obtain ⟨l1, l2, l3⟩ := qscript w1
  unfold maxLen at l2
  go_enter Try.func3, Try.ntmps3
  go_upto_region 1 with fail
  go_cut [0] (fun s0 wx => ∃ n : Nat, n < 200 ∧ s0 = .int .i64 n ∧ w = wx)
  case first =>
    by_cases ha : 0 < a0
    · go_wp2
      go_meet
      exact ⟨(a0 % 200).toNat, by omega, by congr 1; omega, rfl⟩
    · go_wp2
      go_meet
      exact ⟨0, by omega, rfl, rfl⟩
  case rest =>
  obtain ⟨n, hn, rfl, rfl⟩ := hcut
  go_wp2_with fail
  refine (q_new 256 _ _ _ (St.start _)).mono ?_
  rintro e w2 ⟨p, rfl, h1⟩
  change St w w2 (QAt 78 p ⟨256, [], 0⟩ * Old w) at h1
  go_wp2
  go_loopw [18] (fun i wr => ∃ k : Nat, k ≤ n ∧ i = .int .i64 k ∧ St w wr (QAt 78 p ⟨256, (List.range k).map byteStr, 0⟩ * Old w)) (fun i _ => n - (intOf i).toNat)
  case atStart => exact ⟨0, by omega, rfl, h1⟩
  case round =>
    obtain ⟨k, hk, rfl, h2⟩ := hrel
    by_cases hlt : k < n
    · have hcv := fun wx => byte_conv wx k (by omega)
      have hp : Q.push ⟨256, (List.range k).map byteStr, 0⟩ (byteStr k) = (⟨256, (List.range (k + 1)).map byteStr, 0⟩, 0) := by
        unfold Q.push
        rw [if_neg (by simp [byteStr, ByteArray.size]), if_neg (by simp; omega)]
        simp [List.range_succ]
      go_wp2_with fail
      refine (q_push_to (h2.alloc (.cells #[.int .u8 k] 5)).drop ⟨by simp only []; omega, by simp only []; omega, by simp; omega, by simp⟩ hp).mono ?_
      rintro e w3 ⟨rfl, h3⟩
      go_wp2
      go_roundw
      case rel => exact ⟨k + 1, by omega, by go_num, h3⟩
      case measure => simp [intOf]; omega
    · obtain rfl : n = k := by omega
      go_upto_region 10 with fail
      go_cut [33, 34, 35] (fun s33 s34 s35 wx => ∃ m : Nat, m ≤ len1 ∧ s33 = .slice a1 m cap1 ∧ s34 = .int .i64 m ∧ s35 = .int .i64 0 ∧ wx = wr)
      case first =>
        go_wp2
        all_goals (go_meet; first | exact ⟨len1, Nat.le_refl _, rfl, rfl, rfl, rfl⟩ | exact ⟨200, by omega, rfl, rfl, rfl, rfl⟩)
      case rest =>
      obtain ⟨m, hm, rfl, rfl, rfl, rfl⟩ := hcut
      go_wp2
      go_loopw [7, 8, 35] (fun d x i wr => ∃ (k done next : Nat), k ≤ m ∧ i = .int .i64 k ∧ d = .int .i64 done ∧ x = .int .i64 next ∧ done ≤ next ∧ next ≤ n ∧ St w wr (QAt 78 p ⟨256, ((List.range n).drop done).map byteStr, next - done⟩ * Old w)) (fun _ _ i _ => m - (intOf i).toNat)
      case atStart => exact ⟨0, 0, 0, by omega, rfl, rfl, rfl, by omega, by omega, h2⟩
      case round =>
        obtain ⟨k, done, next, hk, rfl, rfl, rfl, hd, hx, h3⟩ := hrel
        by_cases hlt : k < m
        · obtain ⟨b, off, rfl, hb, hi⟩ := l3 (by omega)
          obtain ⟨x, fx, c0, c1, c2, c3⟩ := hi k (by omega)
          have hbel := (h3.eq (star_comm _ _)).old
          have d0 := (hbel.cell (p := ⟨b, off + k * 4, none⟩) hb).trans c0
          have d1 := (hbel.cell (p := ⟨b, off + k * 4 + 1, none⟩) hb).trans c1
          have d2 := (hbel.cell (p := ⟨b, off + k * 4 + 2, none⟩) hb).trans c2
          have d3 := (hbel.cell (p := ⟨b, off + k * 4 + 3, none⟩) hb).trans c3
          clear hi l3
          have h4 := h3.alloc (.cells #[.int .i64 x.Do, .int .i64 x.N, .int .i64 x.Often, .string x.Data] 29)
          have ok : Q.Ok ⟨256, ((List.range n).drop done).map byteStr, next - done⟩ := ⟨by simp only []; omega, by simp only []; omega, by simp; omega, by simp; omega⟩
          go_wp2_with fail
          all_goals
            have h5 := h4.eq (star_left_comm _ _ _)
            clear d0 d1 d2 d3 c0 c1 c2 c3 h4
            generalize wr.heap.size = g at *
          · by_cases bad : x.N < 0 ∨ (((next - done : Nat)) : Int) < x.N
            · have hq : Q.done ⟨256, ((List.range n).drop done).map byteStr, next - done⟩ x.N = (⟨256, ((List.range n).drop done).map byteStr, next - done⟩, false) := by unfold Q.done; rw [if_pos bad]
              refine (q_done_to h5 ok hq).mono ?_
              rintro e w3 ⟨rfl, h6⟩
              have ok' := ok
              have c9 : (done : Int) ≤ next := by omega
              have h7 := (h6.eq (star_left_comm _ _ _)).drop
              clear h6
              go_wp2_with fail
              refine (q_sent p _ w _ _ h7).mono ?_
              rintro e w4 ⟨rfl, rfl⟩
              have e1 : (((next - done : Nat)) : Int) = (next : Int) - done := by omega
              simp only [e1]
              clear e1
              go_wp2_with fail
              refine (q_left p _ w _ _ h7 ok').mono ?_
              rintro e w4 ⟨rfl, nq, rfl⟩
              have e1 : (((((List.range n).drop (done)).map byteStr).length : Int) - ((next - done : Nat) : Int)) = (n : Int) - next := by simp; omega
              simp only [e1]
              clear e1
              go_wp2
              go_roundw
              case rel => exact ⟨k + 1, done, next, by omega, by go_num, by go_num, by go_num, by omega, by omega, h7.drewN nq⟩
              case measure => simp [intOf]; omega
            · obtain ⟨j, hj⟩ : ∃ j : Nat, x.N = j := ⟨x.N.toNat, by omega⟩
              have hq : Q.done ⟨256, ((List.range n).drop done).map byteStr, next - done⟩ j = (⟨256, ((List.range n).drop (done + j)).map byteStr, next - (done + j)⟩, true) := by
                unfold Q.done
                rw [if_neg (by rw [← hj]; exact bad)]
                simp [← List.map_drop, Nat.sub_sub]
              have ok' : Q.Ok ⟨256, ((List.range n).drop (done + j)).map byteStr, next - (done + j)⟩ := ⟨by simp only []; omega, by simp only []; omega, by simp; omega, by simp; omega⟩
              have j1 : done + j ≤ next := by omega
              rw [hj] at h5 ⊢
              refine (q_done_to h5 ok hq).mono ?_
              rintro e w3 ⟨rfl, h6⟩
              have e0 := (h6.eq (star_left_comm _ _ _)).cell
              clear hq bad hj
              have c9 : ((done + j) : Int) ≤ next := by omega
              have h7 := (h6.eq (star_left_comm _ _ _)).drop
              clear h6
              go_wp2_with fail
              refine (q_sent p _ w _ _ h7).mono ?_
              rintro e w4 ⟨rfl, rfl⟩
              have e1 : (((next - (done + j) : Nat)) : Int) = (next : Int) - (done + j) := by omega
              simp only [e1]
              clear e1
              go_wp2_with fail
              refine (q_left p _ w _ _ h7 ok').mono ?_
              rintro e w4 ⟨rfl, nq, rfl⟩
              have e1 : (((((List.range n).drop ((done + j))).map byteStr).length : Int) - ((next - (done + j) : Nat) : Int)) = (n : Int) - next := by simp; omega
              simp only [e1]
              clear e1
              go_wp2
              go_roundw
              case rel => exact ⟨k + 1, (done + j), next, by omega, by go_num, by go_num, by go_num, by omega, by omega, h7.drewN nq⟩
              case measure => simp [intOf]; omega
          · by_cases bad : x.N < 0 ∨ (((next - done : Nat)) : Int) < x.N
            · have hq : Q.done ⟨256, ((List.range n).drop done).map byteStr, next - done⟩ x.N = (⟨256, ((List.range n).drop done).map byteStr, next - done⟩, false) := by unfold Q.done; rw [if_pos bad]
              refine (q_done_to h5 ok hq).mono ?_
              rintro e w3 ⟨rfl, h6⟩
              have ok' := ok
              have c9 : (done : Int) ≤ next := by omega
              have h7 := (h6.eq (star_left_comm _ _ _)).drop
              clear h6
              go_wp2_with fail
              refine (q_sent p _ w _ _ h7).mono ?_
              rintro e w4 ⟨rfl, rfl⟩
              have e1 : (((next - done : Nat)) : Int) = (next : Int) - done := by omega
              simp only [e1]
              clear e1
              go_wp2_with fail
              refine (q_left p _ w _ _ h7 ok').mono ?_
              rintro e w4 ⟨rfl, nq, rfl⟩
              have e1 : (((((List.range n).drop (done)).map byteStr).length : Int) - ((next - done : Nat) : Int)) = (n : Int) - next := by simp; omega
              simp only [e1]
              clear e1
              go_wp2
              go_roundw
              case rel => exact ⟨k + 1, done, next, by omega, by go_num, by go_num, by go_num, by omega, by omega, h7.drewN nq⟩
              case measure => simp [intOf]; omega
            · obtain ⟨j, hj⟩ : ∃ j : Nat, x.N = j := ⟨x.N.toNat, by omega⟩
              have hq : Q.done ⟨256, ((List.range n).drop done).map byteStr, next - done⟩ j = (⟨256, ((List.range n).drop (done + j)).map byteStr, next - (done + j)⟩, true) := by
                unfold Q.done
                rw [if_neg (by rw [← hj]; exact bad)]
                simp [← List.map_drop, Nat.sub_sub]
              have ok' : Q.Ok ⟨256, ((List.range n).drop (done + j)).map byteStr, next - (done + j)⟩ := ⟨by simp only []; omega, by simp only []; omega, by simp; omega, by simp; omega⟩
              have j1 : done + j ≤ next := by omega
              rw [hj] at h5 ⊢
              refine (q_done_to h5 ok hq).mono ?_
              rintro e w3 ⟨rfl, h6⟩
              have e0 := (h6.eq (star_left_comm _ _ _)).cell
              clear hq bad hj
              have c9 : ((done + j) : Int) ≤ next := by omega
              have h7 := (h6.eq (star_left_comm _ _ _)).drop
              clear h6
              go_wp2_with fail
              refine (q_sent p _ w _ _ h7).mono ?_
              rintro e w4 ⟨rfl, rfl⟩
              have e1 : (((next - (done + j) : Nat)) : Int) = (next : Int) - (done + j) := by omega
              simp only [e1]
              clear e1
              go_wp2_with fail
              refine (q_left p _ w _ _ h7 ok').mono ?_
              rintro e w4 ⟨rfl, nq, rfl⟩
              have e1 : (((((List.range n).drop ((done + j))).map byteStr).length : Int) - ((next - (done + j) : Nat) : Int)) = (n : Int) - next := by simp; omega
              simp only [e1]
              clear e1
              go_wp2
              go_roundw
              case rel => exact ⟨k + 1, (done + j), next, by omega, by go_num, by go_num, by go_num, by omega, by omega, h7.drewN nq⟩
              case measure => simp [intOf]; omega
          · by_cases bad : x.N < 0 ∨ (((next - done : Nat)) : Int) < x.N
            · have hq : Q.back ⟨256, ((List.range n).drop done).map byteStr, next - done⟩ x.N = (⟨256, ((List.range n).drop done).map byteStr, next - done⟩, false) := by unfold Q.back; rw [if_pos bad]
              refine (q_back_to h5 hq).mono ?_
              rintro e w3 ⟨rfl, h6⟩
              have ok' := ok
              have c9 : (done : Int) ≤ next := by omega
              have h7 := (h6.eq (star_left_comm _ _ _)).drop
              clear h6
              go_wp2_with fail
              refine (q_sent p _ w _ _ h7).mono ?_
              rintro e w4 ⟨rfl, rfl⟩
              have e1 : (((next - done : Nat)) : Int) = (next : Int) - done := by omega
              simp only [e1]
              clear e1
              go_wp2_with fail
              refine (q_left p _ w _ _ h7 ok').mono ?_
              rintro e w4 ⟨rfl, nq, rfl⟩
              have e1 : (((((List.range n).drop (done)).map byteStr).length : Int) - ((next - done : Nat) : Int)) = (n : Int) - next := by simp; omega
              simp only [e1]
              clear e1
              go_wp2
              go_roundw
              case rel => exact ⟨k + 1, done, next, by omega, by go_num, by go_num, by go_num, by omega, by omega, h7.drewN nq⟩
              case measure => simp [intOf]; omega
            · obtain ⟨j, hj⟩ : ∃ j : Nat, x.N = j := ⟨x.N.toNat, by omega⟩
              have hq : Q.back ⟨256, ((List.range n).drop done).map byteStr, next - done⟩ j = (⟨256, ((List.range n).drop done).map byteStr, (done + j) - done⟩, true) := by
                unfold Q.back
                rw [if_neg (by rw [← hj]; exact bad)]
                simp
              have ok' : Q.Ok ⟨256, ((List.range n).drop done).map byteStr, (done + j) - done⟩ := ⟨by simp only []; omega, by simp only []; omega, by simp; omega, by simp; omega⟩
              have j1 : done + j ≤ next := by omega
              rw [hj] at h5 ⊢
              refine (q_back_to h5 hq).mono ?_
              rintro e w3 ⟨rfl, h6⟩
              have e0 := (h6.eq (star_left_comm _ _ _)).cell
              clear hq bad hj
              have c9 : (done : Int) ≤ (done + j) := by omega
              have h7 := (h6.eq (star_left_comm _ _ _)).drop
              clear h6
              go_wp2_with fail
              refine (q_sent p _ w _ _ h7).mono ?_
              rintro e w4 ⟨rfl, rfl⟩
              have e1 : ((((done + j) - done : Nat)) : Int) = ((done + j) : Int) - done := by omega
              simp only [e1]
              clear e1
              go_wp2_with fail
              refine (q_left p _ w _ _ h7 ok').mono ?_
              rintro e w4 ⟨rfl, nq, rfl⟩
              have e1 : (((((List.range n).drop (done)).map byteStr).length : Int) - (((done + j) - done : Nat) : Int)) = (n : Int) - (done + j) := by simp; omega
              simp only [e1]
              clear e1
              go_wp2
              go_roundw
              case rel => exact ⟨k + 1, done, (done + j), by omega, by go_num, by go_num, by go_num, by omega, by omega, h7.drewN nq⟩
              case measure => simp [intOf]; omega
          · by_cases bad : x.N < 0 ∨ (((next - done : Nat)) : Int) < x.N
            · have hq : Q.back ⟨256, ((List.range n).drop done).map byteStr, next - done⟩ x.N = (⟨256, ((List.range n).drop done).map byteStr, next - done⟩, false) := by unfold Q.back; rw [if_pos bad]
              refine (q_back_to h5 hq).mono ?_
              rintro e w3 ⟨rfl, h6⟩
              have ok' := ok
              have c9 : (done : Int) ≤ next := by omega
              have h7 := (h6.eq (star_left_comm _ _ _)).drop
              clear h6
              go_wp2_with fail
              refine (q_sent p _ w _ _ h7).mono ?_
              rintro e w4 ⟨rfl, rfl⟩
              have e1 : (((next - done : Nat)) : Int) = (next : Int) - done := by omega
              simp only [e1]
              clear e1
              go_wp2_with fail
              refine (q_left p _ w _ _ h7 ok').mono ?_
              rintro e w4 ⟨rfl, nq, rfl⟩
              have e1 : (((((List.range n).drop (done)).map byteStr).length : Int) - ((next - done : Nat) : Int)) = (n : Int) - next := by simp; omega
              simp only [e1]
              clear e1
              go_wp2
              go_roundw
              case rel => exact ⟨k + 1, done, next, by omega, by go_num, by go_num, by go_num, by omega, by omega, h7.drewN nq⟩
              case measure => simp [intOf]; omega
            · obtain ⟨j, hj⟩ : ∃ j : Nat, x.N = j := ⟨x.N.toNat, by omega⟩
              have hq : Q.back ⟨256, ((List.range n).drop done).map byteStr, next - done⟩ j = (⟨256, ((List.range n).drop done).map byteStr, (done + j) - done⟩, true) := by
                unfold Q.back
                rw [if_neg (by rw [← hj]; exact bad)]
                simp
              have ok' : Q.Ok ⟨256, ((List.range n).drop done).map byteStr, (done + j) - done⟩ := ⟨by simp only []; omega, by simp only []; omega, by simp; omega, by simp; omega⟩
              have j1 : done + j ≤ next := by omega
              rw [hj] at h5 ⊢
              refine (q_back_to h5 hq).mono ?_
              rintro e w3 ⟨rfl, h6⟩
              have e0 := (h6.eq (star_left_comm _ _ _)).cell
              clear hq bad hj
              have c9 : (done : Int) ≤ (done + j) := by omega
              have h7 := (h6.eq (star_left_comm _ _ _)).drop
              clear h6
              go_wp2_with fail
              refine (q_sent p _ w _ _ h7).mono ?_
              rintro e w4 ⟨rfl, rfl⟩
              have e1 : ((((done + j) - done : Nat)) : Int) = ((done + j) : Int) - done := by omega
              simp only [e1]
              clear e1
              go_wp2_with fail
              refine (q_left p _ w _ _ h7 ok').mono ?_
              rintro e w4 ⟨rfl, nq, rfl⟩
              have e1 : (((((List.range n).drop (done)).map byteStr).length : Int) - (((done + j) - done : Nat) : Int)) = (n : Int) - (done + j) := by simp; omega
              simp only [e1]
              clear e1
              go_wp2
              go_roundw
              case rel => exact ⟨k + 1, done, (done + j), by omega, by go_num, by go_num, by go_num, by omega, by omega, h7.drewN nq⟩
              case measure => simp [intOf]; omega
          · by_cases hx2 : next < n
            · have hq : Q.take ⟨256, ((List.range n).drop done).map byteStr, next - done⟩ = (⟨256, ((List.range n).drop done).map byteStr, (next + 1) - done⟩, byteStr next, true) := by
                unfold Q.take
                rw [if_pos (by simp; omega)]
                have : done + (next - done) = next := by omega
                simp [List.getD, List.getElem?_drop, this, List.getElem?_range hx2]
                omega
              have ok' : Q.Ok ⟨256, ((List.range n).drop done).map byteStr, (next + 1) - done⟩ := ⟨by simp only []; omega, by simp only []; omega, by simp; omega, by simp; omega⟩
              have hcv := fun wx => byte_conv wx next (by omega)
              refine (q_take_to h5 ok hq).mono ?_
              rintro e w3 ⟨rfl, h6⟩
              have h6 := h6.alloc (.cells #[.int .u8 next] 5) |>.drop
              clear hq
              have c9 : (done : Int) ≤ (next + 1) := by omega
              have h7 := (h6.eq (star_left_comm _ _ _)).drop
              clear h6
              go_wp2_with fail
              refine (q_sent p _ w _ _ h7).mono ?_
              rintro e w4 ⟨rfl, rfl⟩
              have e1 : ((((next + 1) - done : Nat)) : Int) = ((next + 1) : Int) - done := by omega
              simp only [e1]
              clear e1
              go_wp2_with fail
              refine (q_left p _ w _ _ h7 ok').mono ?_
              rintro e w4 ⟨rfl, nq, rfl⟩
              have e1 : (((((List.range n).drop (done)).map byteStr).length : Int) - (((next + 1) - done : Nat) : Int)) = (n : Int) - (next + 1) := by simp; omega
              simp only [e1]
              clear e1
              go_wp2
              go_roundw
              case rel => exact ⟨k + 1, done, (next + 1), by omega, by go_num, by go_num, by go_num, by omega, by omega, h7.drewN nq⟩
              case measure => simp [intOf]; omega
            · have hq : Q.take ⟨256, ((List.range n).drop done).map byteStr, next - done⟩ = (⟨256, ((List.range n).drop done).map byteStr, next - done⟩, ⟨#[]⟩, false) := by
                unfold Q.take
                rw [if_neg (by simp; omega)]
              have ok' := ok
              refine (q_take_to h5 ok hq).mono ?_
              rintro e w3 ⟨rfl, h6⟩
              clear hq
              have c9 : (done : Int) ≤ next := by omega
              have h7 := (h6.eq (star_left_comm _ _ _)).drop
              clear h6
              go_wp2_with fail
              refine (q_sent p _ w _ _ h7).mono ?_
              rintro e w4 ⟨rfl, rfl⟩
              have e1 : (((next - done : Nat)) : Int) = (next : Int) - done := by omega
              simp only [e1]
              clear e1
              go_wp2_with fail
              refine (q_left p _ w _ _ h7 ok').mono ?_
              rintro e w4 ⟨rfl, nq, rfl⟩
              have e1 : (((((List.range n).drop (done)).map byteStr).length : Int) - ((next - done : Nat) : Int)) = (n : Int) - next := by simp; omega
              simp only [e1]
              clear e1
              go_wp2
              go_roundw
              case rel => exact ⟨k + 1, done, next, by omega, by go_num, by go_num, by go_num, by omega, by omega, h7.drewN nq⟩
              case measure => simp [intOf]; omega
        · go_wp2_with fail
          refine (q_wakes w _ _ h3).mono ?_
          rintro e w2 ⟨rfl, h3⟩
          go_wp2
          go_ret
          exact ⟨rfl, h3.drop.old0⟩
end Go.Proofs.Ytopjbiiddaoklaa
