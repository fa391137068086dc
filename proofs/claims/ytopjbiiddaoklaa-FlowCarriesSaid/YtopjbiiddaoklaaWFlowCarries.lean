/- FlowCarries: the walk. -/
import Derived.Test.YtopjbiiddaoklaaWFlowCarryA
namespace Go.Proofs.Ytopjbiiddaoklaa
open Go.RowKit

def cl (k : Int) (m : Nat) : Fl := ⟨0, 0, 0, false, false, false, k, ⟨256, (List.range m).map byteStr, 0⟩⟩
theorem cl_ok (k : Int) (m : Nat) (h : m < 200) : (cl k m).Ok := by
  refine ⟨?_, ?_, ?_, ⟨?_, ?_, ?_, ?_⟩, ?_, ?_⟩
  all_goals simp only [cl, List.length_map, List.length_range]
  all_goals omega
theorem cl_push (k : Int) (m : Nat) (h : m < 200) : (cl k m).q.push (byteStr m) = ((cl k (m + 1)).q, 0) := by
  unfold Q.push
  rw [if_neg (by simp [byteStr, ByteArray.size]), if_neg (by simp [cl]; omega)]
  simp [cl, List.range_succ]
theorem cl_next (k : Int) (m : Nat) : { cl k m with q := (cl k (m + 1)).q } = cl k (m + 1) := rfl
theorem e256 : (max (1 : Int) (min 256 256)).toNat = 256 := by decide
theorem cb_start (k : Int) : (⟨0, 0, 0, false, false, false, k, ⟨(max (1 : Int) (min 256 256)).toNat, [], 0⟩⟩ : Fl) = cb k 0 false := by rw [e256]; rfl
theorem cl_start (k : Int) : (⟨0, 0, 0, false, false, false, k, ⟨(max (1 : Int) (min 256 256)).toNat, [], 0⟩⟩ : Fl) = cl k 0 := by rw [e256]; rfl
theorem cl_ca (k : Int) (m : Nat) : cl k m = ca k m 0 0 := rfl

set_option maxRecDepth 100000 in
set_option maxHeartbeats 3200000 in
theorem FlowCarries.walk (a0 : Int) (a1 : Int) (a2 : Option Addr) (len2 cap2 : Nat) (w : World) (_w0 : (Lit.int .i64 a0).wf = true) (_w1 : (Lit.int .i64 a1).wf = true) (w2 : (Sh.slice (.bool)).ok w [.slice a2 len2 cap2]) :
    Calls Try.prog 8 #[.int .i64 a0, .int .i64 a1, .slice a2 len2 cap2] w fun e w' => e = .returned (.bool true) ∧ Below w.heap.size w w' := by
  have hF2 := view_vr'
  have hF7 := view_left
  have h0 := (St.start w).alloc (.cells #[.slice a2 len2 cap2] 49)
  go_enter Try.func8, Try.ntmps8
  go_upto_region 1 with fail
  generalize hb : w.heap.size = b at h0 ⊢
  generalize w.alloc (.cells #[.slice a2 len2 cap2] 49) = wb at *
  go_cut [0] (fun s0 wx => ∃ n : Nat, n < 200 ∧ s0 = .int .i64 n ∧ wb = wx)
  case first =>
    by_cases ha : 0 < a0
    · go_wp2
      go_meet
      exact ⟨(a0 % 200).toNat, by omega, by congr 1; omega, rfl⟩
    · go_wp2
      go_meet
      exact ⟨0, by omega, rfl, rfl⟩
  case rest =>
  obtain ⟨n, hn, rfl, rfl⟩ := hcut
  go_wp2_with fail
  refine (f_new _ _ _ _ _ h0).mono ?_
  rintro e w3 ⟨f, rfl, h1⟩
  rw [cl_start] at h1
  go_wp2_with fail
  refine (f_new _ _ _ _ _ h1).mono ?_
  rintro e w4 ⟨g, rfl, h2⟩
  rw [cb_start] at h2
  have h2 := h2.eq (star_left_comm _ _ _)
  go_wp2
  go_loopw [26] (fun i wr => ∃ k : Nat, k ≤ n ∧ i = .int .i64 k ∧ St w wr (FAt TF TQ f (cl a1 k) * (FAt TF TQ g (cb a1 0 false) * (blk b (.cells #[.slice a2 len2 cap2] 49 (0, 0)) * Old w)))) (fun i _ => n - (intOf i).toNat)
  case atStart => exact ⟨0, by omega, rfl, h2⟩
  case round =>
    clear h0 h1 h2
    obtain ⟨k, hk, rfl, h3⟩ := hrel
    by_cases hlt : k < n
    · have hcv := fun wx => byte_conv wx k (by omega)
      go_wp2_with fail
      refine (f_push_to (h3.alloc (.cells #[.int .u8 k] 5)).drop (cl_ok a1 k (by omega)) (cl_push a1 k (by omega))).mono ?_
      rintro e w5 ⟨rfl, h4⟩
      rw [cl_next] at h4
      go_wp2
      go_roundw
      case rel => exact ⟨k + 1, by omega, by go_num, h4⟩
      case measure => simp [intOf]; omega
    · obtain rfl : k = n := by omega
      rw [cl_ca] at h3
      have h4 := (h3.alloc (.cells #[.int .i64 0] 3))
      have c4 := h4.cell
      have f4 := h4.free
      have h5 := h4.eq (show _ = blk _ _ * (blk b _ * (FAt TF TQ f _ * (FAt TF TQ g _ * Old w))) by ac_rfl)
      go_upto_region 11 with fail
      generalize wr.heap.size = p at *
      generalize wr.alloc (.cells #[.int .i64 0] 3) = wp at *
      go_wp2
      go_loopw [10, 38] (fun s10 s38 wr => ∃ (A sent got i : Nat) (r : Bool), i ≤ 2000 ∧ s38 = .int .i64 i ∧ s10 = .int .i64 got ∧ A ≤ got ∧ got ≤ k ∧ A + sent ≤ k ∧ (sent : Int) ≤ max 1 (min a1 127) ∧ (got : Int) ≤ A + max 1 (min a1 127) ∧ (i ≤ 500 ∨ (got = A + sent ∧ i + 2 * (k - got) + min sent 1 ≤ 1100) ∨ i + 2 * (k - got) + 129 ≤ 1100 + sent) ∧ St w wr (blk p (.cells #[.int .i64 i] 3 (0, 0)) * (blk b (.cells #[.slice a2 len2 cap2] 49 (0, 0)) * (FAt TF TQ f (ca a1 k A sent) * (FAt TF TQ g (cb a1 got r) * Old w))))) (fun _ i _ => 2000 - (intOf i).toNat)
      case atStart => exact ⟨0, 0, 0, 0, false, by omega, rfl, rfl, by omega, by omega, by omega, by omega, by omega, by omega, h5⟩
      case round =>
        clear h3 h4 h5 c4 f4
        obtain ⟨A, sent, got, i, r, hi, rfl, rfl, g1, g2, g3, g4, g5, g6, h6⟩ := hrel
        by_cases hlt : i < 2000
        · have y1 : (i : Int) < 2000 := by omega
          have okA := ca_ok a1 k A sent hn g3 g4
          by_cases ht : A + sent < k ∧ (sent : Int) < max 1 (min a1 127)
          · have q1 := ca_take a1 k A sent ht.1 ht.2
            have okB := ca_ok a1 k A (sent + 1) hn (by omega) (by omega)
            have Q1 := Lib.hid q1
            clear q1
            go_wp2_with fail
            refine (f_take_to (h6.eq (star_3 _ _ _ _)) okA Q1.out).mono ?_
            rintro e w7 ⟨rfl, h7⟩
            go_wp2_with fail
            refine (carries_drop p b i (by omega) a2 len2 cap2 _ _ (FAt TF TQ f (ca a1 k A (sent + 1))) (FAt TF TQ g (cb a1 got r)) w2 (h7.eq (show _ = blk p _ * (blk b _ * (FAt TF TQ f _ * (FAt TF TQ g _ * Old w))) by ac_rfl))).mono ?_
            rintro e w8 ⟨x, rfl, hx, h8⟩
            cases x with
            | true =>
              have y2 : i < 500 := by
                rcases Nat.lt_or_ge i 500 with h | h
                · exact h
                · exact absurd (hx h) (by simp)
              clear hx
              go_wp2
              go_roundw
              case rel => exact ⟨A, sent + 1, got, i + 1, r, by omega, by go_num, rfl, by omega, by omega, by omega, by omega, by omega, by omega, h8⟩
              case measure => simp [intOf]; omega
            | false =>
              clear hx
              by_cases he : A + sent = got
              · have q2 := cb_next a1 got (A + sent) r he
                have Q2 := Lib.hid q2
                clear q2
                have hcv := fun wx => byte_conv wx got (by omega)
                have hbe : byteStr (A + sent) = byteStr got := by rw [he]
                simp only [hbe]
                clear hbe
                go_wp2_with fail
                refine (f_come_to' (h8.eq (star_4 _ _ _ _ _)) Q2.out).mono ?_
                rintro e w9 ⟨rfl, h9⟩
                go_wp2
                go_roundw
                case rel => exact ⟨A, sent + 1, got + 1, i + 1, false, by omega, by go_num, by go_num, by omega, by omega, by omega, by omega, by omega, by omega, ((h9.alloc (.cells #[.int .u8 got] 5)).drop).eq (star_4 _ _ _ _ _).symm⟩
                case measure => simp [intOf]; omega
              · obtain ⟨c, hc, q2⟩ := cb_other a1 got (A + sent) r (by omega) (by omega) he
                have Q2 := Lib.hid q2
                clear q2
                go_wp2_with fail
                refine (f_come_to' (h8.eq (star_4 _ _ _ _ _)) Q2.out).mono ?_
                rintro e w9 ⟨rfl, h9⟩
                go_wp2
                go_roundw
                case rel => exact ⟨A, sent + 1, got, i + 1, true, by omega, by go_num, rfl, by omega, by omega, by omega, by omega, by omega, by omega, h9.eq (star_4 _ _ _ _ _).symm⟩
                case measure => simp [intOf]; omega
          · have q1 := ca_none a1 k A sent g3 g4 ht
            have Q1 := Lib.hid q1
            have HT := Lib.hid ht
            clear q1 ht
            go_wp2_with fail
            refine (f_take_to (h6.eq (star_3 _ _ _ _)) okA Q1.out).mono ?_
            rintro e w7 ⟨rfl, h7⟩
            go_wp2_with fail
            refine (carries_drop p b i (by omega) a2 len2 cap2 _ _ (FAt TF TQ f (ca a1 k A sent)) (FAt TF TQ g (cb a1 got r)) w2 (h7.eq (show _ = blk p _ * (blk b _ * (FAt TF TQ f _ * (FAt TF TQ g _ * Old w))) by ac_rfl))).mono ?_
            rintro e w8 ⟨x, rfl, hx, h8⟩
            cases x with
            | true =>
              have y2 : i < 500 := by
                rcases Nat.lt_or_ge i 500 with h | h
                · exact h
                · exact absurd (hx h) (by simp)
              clear hx
              go_wp2_with fail
              refine (f_back f _ _ _ _ (h8.eq (star_3 _ _ _ _))).mono ?_
              rintro e w8 ⟨rfl, h8⟩
              rw [ca_back] at h8
              go_wp2_with fail
              refine (f_view_to h8 (ca_ok a1 k A 0 hn (by omega) (by omega)) (ca_view _ _ _ _)).mono ?_
              rintro e w9 ⟨rfl, h9⟩
              clear h8
              by_cases hz : A = k
              · have z1 : (((k : Int) - (A : Nat) - ((0 : Nat) : Int)) == 0) = true := by simp; omega
                have z2 : (k : Int) - (A : Nat) - ((0 : Nat) : Int) = 0 := by omega
                have z3 : got = k := by omega
                simp only [z2]
                go_wp2_with fail
                refine (f_wakes _ _ _ h9).mono ?_
                rintro e w10 ⟨rfl, h10⟩
                go_wp2_with fail
                refine (f_view_to h10 (ca_ok a1 k A 0 hn (by omega) (by omega)) (ca_view _ _ _ _)).mono ?_
                rintro e w11 ⟨rfl, h11⟩
                simp only [z2]
                go_wp2
                go_ret
                exact ⟨by simp, h11.drop.drop.drop.drop.old0⟩
              · have z1 : (((k : Int) - (A : Nat) - ((0 : Nat) : Int)) == 0) = false := by simp; omega
                go_wp2
                go_roundw
                case rel =>
                  have ht := HT.out
                  exact ⟨A, 0, got, i + 1, r, by omega, by go_num, rfl, by omega, by omega, by omega, by omega, by omega, by omega, (h9.eq (show _ = blk p _ * (blk b _ * (FAt TF TQ f _ * (FAt TF TQ g _ * Old w))) by ac_rfl))⟩
                case measure => simp [intOf]; omega
            | false =>
              clear hx
              have ht := HT.out
              have y3 : got ≤ A + sent := by omega
              have q3 := ca_ack a1 k A sent got g1 y3 (by omega)
              have Q3 := Lib.hid q3
              have okC := cb_ok a1 got r
              clear q3 ht
              go_wp2_with fail
              refine (f_view_to (h8.eq (star_4 _ _ _ _ _)) okC (cb_view _ _ _)).mono ?_
              rintro e w9 ⟨rfl, h9⟩
              go_wp2_with fail
              refine (f_ack_to (h9.eq (show _ = FAt TF TQ f _ * (blk p _ * (blk b _ * (FAt TF TQ g _ * Old w))) by ac_rfl)) okA Q3.out).mono ?_
              rintro e w7 ⟨rfl, h7⟩
              go_wp2_with fail
              refine (f_back f _ _ _ _ h7).mono ?_
              rintro e w8 ⟨rfl, h8⟩
              rw [ca_back] at h8
              go_wp2_with fail
              refine (f_view_to h8 (ca_ok a1 k got 0 hn (by omega) (by omega)) (ca_view _ _ _ _)).mono ?_
              rintro e w9 ⟨rfl, h9⟩
              clear h8
              by_cases hz : got = k
              · have z1 : (((k : Int) - (got : Nat) - ((0 : Nat) : Int)) == 0) = true := by simp; omega
                have z2 : (k : Int) - (got : Nat) - ((0 : Nat) : Int) = 0 := by omega
                have z3 : got = k := by omega
                simp only [z2]
                go_wp2_with fail
                refine (f_wakes _ _ _ h9).mono ?_
                rintro e w10 ⟨rfl, h10⟩
                go_wp2_with fail
                refine (f_view_to h10 (ca_ok a1 k got 0 hn (by omega) (by omega)) (ca_view _ _ _ _)).mono ?_
                rintro e w11 ⟨rfl, h11⟩
                simp only [z2]
                go_wp2
                go_ret
                exact ⟨by simp, h11.drop.drop.drop.drop.old0⟩
              · have z1 : (((k : Int) - (got : Nat) - ((0 : Nat) : Int)) == 0) = false := by simp; omega
                go_wp2
                go_roundw
                case rel =>
                  have ht := HT.out
                  exact ⟨got, 0, got, i + 1, r, by omega, by go_num, rfl, by omega, by omega, by omega, by omega, by omega, by omega, (h9.eq (show _ = blk p _ * (blk b _ * (FAt TF TQ f _ * (FAt TF TQ g _ * Old w))) by ac_rfl))⟩
                case measure => simp [intOf]; omega
        · exfalso
          omega
end Go.Proofs.Ytopjbiiddaoklaa
