/- QueueFills: the walk. -/
import Derived.Test.YtopjbiiddaoklaaWQueueWakes
namespace Go.Proofs.Ytopjbiiddaoklaa
open Go.RowKit

abbrev sp : ByteArray := ⟨#[112]⟩
abbrev sr : ByteArray := ⟨#[114]⟩

theorem int_eq {k : IntKind} {a b : Int} (h : a = b) : Value.int k a = .int k b := by rw [h]

theorem fills_ok (m k n : Nat) (m1 : 1 ≤ m) (m2 : m ≤ 256) (s : ByteArray) (hk : k ≤ m) (hn : n ≤ k) : Q.Ok ⟨m, List.replicate k s, n⟩ := ⟨m1, m2, by simpa using hk, by simpa using hn⟩
theorem fills_push (m k : Nat) : Q.push ⟨m, List.replicate (min k m) sp, 0⟩ sp = (⟨m, List.replicate (min (k + 1) m) sp, 0⟩, if k < m then 0 else 10) := by
  unfold Q.push
  rw [if_neg (by decide)]
  by_cases h : k < m
  · simp only [List.length_replicate]
    rw [if_neg (by omega), if_pos h, Nat.min_eq_left (by omega), Nat.min_eq_left (by omega), List.replicate_succ']
  · simp only [List.length_replicate]
    rw [if_pos (by omega), if_neg h, Nat.min_eq_right (by omega), Nat.min_eq_right (by omega)]
theorem fills_take (m n : Nat) (h : n < m) : Q.take ⟨m, List.replicate m sp, n⟩ = (⟨m, List.replicate m sp, n + 1⟩, sp, true) := by
  unfold Q.take
  simp only [List.length_replicate]
  rw [if_pos h]
  simp [List.getD, h]
theorem fills_done (m n : Nat) (h : n ≤ m) : Q.done ⟨m, List.replicate m sp, n⟩ n = (⟨m, List.replicate (m - n) sp, 0⟩, true) := by
  unfold Q.done
  rw [if_neg (by simp only []; omega)]
  simp
theorem fills_more (m n k : Nat) (hn : n ≤ m) : Q.push ⟨m, List.replicate (m - n) sp ++ List.replicate (min k n) sr, 0⟩ sr = (⟨m, List.replicate (m - n) sp ++ List.replicate (min (k + 1) n) sr, 0⟩, if k < n then 0 else 10) := by
  unfold Q.push
  rw [if_neg (by decide)]
  simp only [List.length_append, List.length_replicate]
  by_cases h : k < n
  · rw [if_neg (by omega), if_pos h, Nat.min_eq_left (by omega), Nat.min_eq_left (by omega), List.replicate_succ', List.append_assoc]
  · rw [if_pos (by omega), if_neg h, Nat.min_eq_right (by omega), Nat.min_eq_right (by omega)]

set_option maxHeartbeats 1600000 in
theorem QueueFills.walk (a0 : Int) (a1 : Int) (w : World) (_w0 : (Lit.int .i64 a0).wf = true) (_w1 : (Lit.int .i64 a1).wf = true) :
    Calls Try.prog 4 #[.int .i64 a0, .int .i64 a1] w fun e w' => e = .returned (.bool true) ∧ Below w.heap.size w w' := by
  obtain ⟨m, hm⟩ : ∃ m : Nat, (max 1 (min a0 256)).toNat = m := ⟨_, rfl⟩
  have m1 : 1 ≤ m := by omega
  have m2 : m ≤ 256 := by omega
  have Hm := Lib.hid hm
  clear hm
  go_enter Try.func4, Try.ntmps4
  go_wp2_with fail
  refine (q_new a0 w w _ (St.start w)).mono ?_
  rintro e w1 ⟨p, rfl, h1⟩
  rw [Hm.out] at h1
  go_upto_region 2 with fail
  go_cut [6] (fun s6 wx => s6 = .int .i64 m ∧ wx = w1)
  case first =>
    go_wp2
    all_goals (go_meet; refine ⟨int_eq ?_, rfl⟩; have := Hm.out; omega)
  case rest =>
    obtain ⟨rfl, rfl⟩ := hcut
    go_wp2
    go_loopw [16] (fun i wr => ∃ k : Nat, k ≤ m + 3 ∧ i = .int .i64 k ∧ St w wr (QAt 78 p ⟨m, List.replicate (min k m) sp, 0⟩ * Old w)) (fun i _ => m + 3 - (intOf i).toNat)
    case atStart => exact ⟨0, by omega, rfl, by simpa using h1⟩
    case round =>
      obtain ⟨k, hk, rfl, h2⟩ := hrel
      by_cases hlt : k < m + 3
      · by_cases hkm : k < m
        all_goals
          go_wp2_with fail
          refine (q_push_to h2 (fills_ok _ _ _ m1 m2 _ (Nat.min_le_right _ _) (Nat.zero_le _)) (fills_push m k)).mono ?_
          rintro e w2 ⟨rfl, h3⟩
          simp only [hkm, if_true, if_false]
          go_wp2
          go_roundw
          case rel => exact ⟨k + 1, by omega, by go_num, h3⟩
          case measure => simp [intOf]; omega
      · rw [Nat.min_eq_right (by omega)] at h2
        go_upto_region 9 with fail
        go_cut [1] (fun s1 wx => ∃ n : Nat, n ≤ m ∧ s1 = .int .i64 n ∧ wx = wr)
        case first =>
          by_cases ha : 0 < a1
          · go_wp2
            go_meet
            refine ⟨(a1 % (m + 1)).toNat, ?_, int_eq ?_, rfl⟩
            · have := Int.emod_lt_of_pos a1 (show (0 : Int) < m + 1 by omega); have := Int.emod_nonneg a1 (show (m + 1 : Int) ≠ 0 by omega); omega
            · have := Int.emod_nonneg a1 (show (m + 1 : Int) ≠ 0 by omega); omega
          · go_wp2
            go_meet
            exact ⟨0, by omega, int_eq (by simp), rfl⟩
        case rest =>
          obtain ⟨n, hn, rfl, rfl⟩ := hcut
          go_wp2
          go_loopw [33] (fun i wr => ∃ k : Nat, k ≤ n ∧ i = .int .i64 k ∧ St w wr (QAt 78 p ⟨m, List.replicate m sp, k⟩ * Old w)) (fun i _ => n - (intOf i).toNat)
          case atStart => exact ⟨0, by omega, rfl, h2⟩
          case round =>
            clear hlt hk h1
            obtain ⟨j, hj, rfl, h3⟩ := hrel
            by_cases hlt : j < n
            · go_wp2_with fail
              refine (q_take_to h3 (fills_ok _ _ _ m1 m2 _ (Nat.le_refl _) (by omega)) (fills_take m j (by omega))).mono ?_
              rintro e w2 ⟨rfl, h3⟩
              go_wp2
              go_roundw
              case rel => exact ⟨j + 1, by omega, by go_num, h3⟩
              case measure => simp [intOf]; omega
            · obtain rfl : n = j := by omega
              clear hlt hj h2
              go_wp2_with fail
              refine (q_wakes w _ _ h3).mono ?_
              rintro e w2 ⟨rfl, h3⟩
              go_wp2_with fail
              refine (q_done_to h3 (fills_ok _ _ _ m1 m2 _ (Nat.le_refl _) (by omega)) (fills_done m n hn)).mono ?_
              rintro e w3 ⟨rfl, h4⟩
              go_wp2_with fail
              refine (q_left p _ w _ _ h4 (fills_ok _ _ _ m1 m2 _ (by omega) (by omega))).mono ?_
              rintro e w4 ⟨rfl, nq, rfl⟩
              have e1 : (((List.replicate (m - n) sp).length : Int) - ((0 : Nat) : Int)) = (m : Int) - n := by simp; omega
              simp only [e1]
              clear e1
              have h5 := h4.drewN nq
              generalize w3.drewN nq = w5 at *
              go_wp2
              go_loopw [56] (fun i wr => ∃ k : Nat, k ≤ n + 1 ∧ i = .int .i64 k ∧ St w wr (QAt 78 p ⟨m, List.replicate (m - n) sp ++ List.replicate (min k n) sr, 0⟩ * Old w)) (fun i _ => n + 1 - (intOf i).toNat)
              case atStart => exact ⟨0, by omega, rfl, by simpa using h5⟩
              case round =>
                clear h3 h4 h5
                obtain ⟨i, hi, rfl, h6⟩ := hrel
                have okn : ∀ i, Q.Ok ⟨m, List.replicate (m - n) sp ++ List.replicate (min i n) sr, 0⟩ := fun i => ⟨m1, m2, by simp; omega, by simp⟩
                by_cases hlt : i < n + 1
                · by_cases hkm : i < n
                  all_goals
                    go_wp2_with fail
                    refine (q_push_to h6 (okn i) (fills_more m n i hn)).mono ?_
                    rintro e w2 ⟨rfl, h7⟩
                    simp only [hkm, if_true, if_false]
                    go_wp2
                    go_roundw
                    case rel => exact ⟨i + 1, by omega, by go_num, h7⟩
                    case measure => simp [intOf]; omega
                · go_wp2_with fail
                  refine (q_list p _ w _ _ h6 (okn i)).mono ?_
                  rintro e w2 ⟨v, rfl, h7⟩
                  obtain ⟨a, cap, rfl, c1, c2⟩ := h7.row_shape
                  have e1 : (List.replicate (m - n) sp ++ List.replicate (min i n) sr).length = m := by simp; omega
                  simp only [e1]
                  clear e1
                  go_wp2
                  go_ret
                  exact ⟨rfl, h7.drop.drop.old0⟩
end Go.Proofs.Ytopjbiiddaoklaa
