/- SourceDenies: the walk. -/
import Derived.Test.YtbnbknabedgpcaaWSrcWakes
namespace Go.Proofs.Ytbnbknabedgpcaa
open Go.RowKit

theorem i64_and65535 (n : Int) : bits .and .i64 n 65535 = n % 65536 := by
  have h255 : (BitVec.ofInt 64 65535).toNat = 2 ^ 16 - 1 := by decide
  have key : (BitVec.ofInt 64 n &&& BitVec.ofInt 64 65535).toNat = (n % ((2 ^ 64 : Nat) : Int)).toNat % 2 ^ 16 := by
    rw [BitVec.toNat_and, BitVec.toNat_ofInt, h255, Nat.and_two_pow_sub_one_eq_mod]
  show IntKind.i64.wrap ((BitVec.ofInt 64 n &&& BitVec.ofInt 64 65535).toNat : Nat) = n % 65536
  rw [key, IntKind.wrap_i64]
  omega

/-- the pool behind k requests -/
def DP (k : Nat) : Pl := ⟨2 ^ (min k 63) - 1, (min k 63 + 62) % 63⟩
theorem DP_seek (k : Nat) (h : k < 63) : Pl.seek 63 (DP k) = (DP (k + 1), 64 + (k : Int), 0) := by
  have : ∀ i : Fin 63, (Pl.seek 63 (DP i)).1.on = (DP (i + 1)).on ∧ (Pl.seek 63 (DP i)).1.last = (DP (i + 1)).last ∧ (Pl.seek 63 (DP i)).2.1 = 64 + ((i : Nat) : Int) ∧ (Pl.seek 63 (DP i)).2.2 = 0 := by decide +kernel
  obtain ⟨h1, h2, h3, h4⟩ := this ⟨k, h⟩
  generalize Pl.seek 63 (DP k) = r at *
  obtain ⟨⟨a, b⟩, c, d⟩ := r
  simp only [] at h1 h2 h3 h4
  subst h1 h2 h3 h4
  rfl
theorem DP_full (k : Nat) (h : 63 ≤ k) : Pl.seek 63 (DP k) = (DP (k + 1), 0, 10) := by
  have e : ∀ j, 63 ≤ j → DP j = DP 63 := fun j hj => by unfold DP; rw [Nat.min_eq_right hj]; rfl
  rw [e k h, e (k + 1) (by omega)]
  have : Pl.seek 63 (DP 63) = (DP 63, 0, 10) := by kernel_rfl
  exact this
theorem DP_list (k : Nat) : ((DP k).upto 63).length = min k 63 := by
  have : ∀ i : Fin 64, ((DP i).upto 63).length = i := by decide +kernel
  by_cases h : k ≤ 63
  · rw [this ⟨k, by omega⟩]; simp; omega
  · have e : DP k = DP 63 := by unfold DP; rw [Nat.min_eq_right (by omega)]; rfl
    have h3 : ((DP 63).upto 63).length = 63 := this ⟨63, by omega⟩
    rw [e, h3]
    omega

theorem den_one (k : Nat) (h : k < 63) (c : List (Int × Chk)) (ri : Int) (h1 : 0 ≤ ri) (h2 : ri < 65536) : Sr.message ⟨DP k, c⟩ ⟨1, ri, 127⟩ = (⟨DP (k + 1), c⟩, [.said 2 ri (64 + k), .of 1 (64 + k)]) := by
  have hb : Msg.bad ⟨1, ri, 127⟩ = 0 := by unfold Msg.bad; rw [if_neg (by simp only []; omega), if_neg (by simp only []; omega), if_pos (by simp only []; omega)]
  unfold Sr.message Sr.request
  rw [hb, if_neg (by simp), if_pos rfl, if_neg (by simp)]
  simp only [DP_seek k h, if_true]
theorem den_two (k : Nat) (h : 63 ≤ k) (c : List (Int × Chk)) (ri : Int) (h1 : 0 ≤ ri) (h2 : ri < 65536) : ∃ c' l, Sr.message ⟨DP k, c⟩ ⟨1, ri, 127⟩ = (⟨DP (k + 1), c'⟩, .said 3 ri 127 :: l) := by
  have hb : Msg.bad ⟨1, ri, 127⟩ = 0 := by unfold Msg.bad; rw [if_neg (by simp only []; omega), if_neg (by simp only []; omega), if_pos (by simp only []; omega)]
  unfold Sr.message Sr.request
  rw [hb, if_neg (by simp), if_pos rfl, if_neg (by simp)]
  simp only [DP_full k h]
  exact ⟨_, _, rfl⟩

/-- a slice of numbers that came in -/
theorem ints_ok {w : World} {a : Option Addr} {len cap : Nat} (h : (Sh.slice (.int .i64)).ok w [.slice a len cap]) : len ≤ cap ∧ cap ≤ maxLen ∧ (0 < len → ∃ b off, a = some ⟨b, off, none⟩ ∧ b < w.heap.size ∧
    ∀ i, i < len → ∃ n, w.cell? ⟨b, off + i, none⟩ = some (.int .i64 n) ∧ (Lit.int .i64 n).wf = true) := by
  obtain ⟨h1, h2, h3⟩ := Sh.slice_ok h (by decide)
  refine ⟨h1, h2, fun h0 => ?_⟩
  obtain ⟨b, off, ha, hb, hi⟩ := h3 h0
  refine ⟨b, off, ha, hb, fun i hil => ?_⟩
  obtain ⟨xs, _, hc, n, rfl, hn⟩ := hi i hil
  have := hc 0 (by decide)
  exact ⟨n, by simpa [Sh.size] using this, hn⟩

set_option maxRecDepth 100000 in
set_option maxHeartbeats 1600000 in
theorem SourceDenies.walk (a0 : Option Addr) (len0 cap0 : Nat) (w : World) (w0 : (Sh.slice (.int .i64)).ok w [.slice a0 len0 cap0]) :
    Calls Try.prog 3 #[.slice a0 len0 cap0] w fun e w' => e = .returned (.bool true) ∧ Below w.heap.size w w' := by
  obtain ⟨l1, l2, l3⟩ := ints_ok w0
  unfold maxLen at l2
  have hEq := msg_eq
  have hGd := msg_guard
  go_enter Try.func3, Try.ntmps3
  go_wp2_with fail
  refine (so_new w w _ (St.start w)).mono ?_
  rintro e w1 ⟨s, rfl, h1⟩
  go_upto_region 2 with fail
  go_cut [14, 15, 16] (fun s14 s15 s16 wx => ∃ m : Nat, m ≤ len0 ∧ min m 63 = min len0 63 ∧ s14 = .slice a0 m cap0 ∧ s15 = .int .i64 m ∧ s16 = .int .i64 0 ∧ w1 = wx)
  case first =>
    go_wp2
    all_goals (go_meet; first | exact ⟨len0, Nat.le_refl _, rfl, rfl, rfl, rfl, rfl⟩ | exact ⟨70, by omega, by omega, rfl, rfl, rfl, rfl⟩)
  case rest =>
    obtain ⟨m, hm, hmm, rfl, rfl, rfl, rfl⟩ := hcut
    go_wp2
    go_loopw [16] (fun i wr => ∃ (k : Nat) (c : List (Int × Chk)), k ≤ m ∧ i = .int .i64 k ∧ Sr.Ok ⟨DP k, c⟩ ∧ St w wr (SAt s ⟨DP k, c⟩ * Old w)) (fun i _ => m - (intOf i).toNat)
    case atStart => exact ⟨0, [], by omega, rfl, Sr.Ok.new, h1⟩
    case round =>
      clear h1
      obtain ⟨k, c, hk, rfl, ok, h2⟩ := hrel
      by_cases hlt : k < m
      · obtain ⟨b, off, rfl, hb, hi⟩ := l3 (by omega)
        obtain ⟨n, hn, hwf⟩ := hi k (by omega)
        have d0 := (h2.eq (star_comm _ _)).old.cell (p := ⟨b, off + k, none⟩) hb
        rw [hn] at d0
        have hri := i64_and65535 n
        have n1 := Int.emod_nonneg n (show (65536 : Int) ≠ 0 by decide)
        have n2 := Int.emod_lt_of_pos n (show (0 : Int) < 65536 by decide)
        generalize n % 65536 = ri at *
        by_cases h63 : k < 63
        · have e := den_one k h63 c ri n1 n2
          have ok' := ok.message ⟨1, ri, 127⟩
          rw [e] at ok'
          simp only [] at ok'
          have E := Lib.hid e
          clear e
          go_wp2_with fail
          refine (so_message_to h2 ok E.out).mono ?_
          rintro e w3 ⟨v3, rfl, h3⟩
          rcases h3.l_cells tyEf.len with ⟨h0, _⟩ | ⟨g, off3, cap3, rfl, hc3, _, hcell⟩
          · cases h0
          have d1 : w3.cell? ⟨g, off3 + 1 + 1, none⟩ = some (.int .i64 ri) := hcell 0 _ rfl 2 _ rfl
          have d2 : w3.cell? ⟨g, off3 + 1, none⟩ = some (.int .i64 2) := hcell 0 _ rfl 1 _ rfl
          have d3 : w3.cell? ⟨g, off3 + 1 + 2, none⟩ = some (.int .i64 (64 + k)) := hcell 0 _ rfl 3 _ rfl
          have h5 := (h3.alloc (.cells #[.int .i64 2, .int .i64 ri, .int .i64 (64 + k)] 29))
          have h6 : (k : Int) < 63 := by omega
          clear hcell h2
          go_wp2
          go_roundw
          case rel => exact ⟨k + 1, c, by omega, by go_num, ok', h5.drop.drop⟩
          case measure => simp [intOf]; omega
        · obtain ⟨c', l', e⟩ := den_two k (by omega) c ri n1 n2
          have ok' := ok.message ⟨1, ri, 127⟩
          rw [e] at ok'
          simp only [] at ok'
          have E := Lib.hid e
          clear e
          go_wp2_with fail
          refine (so_message_to h2 ok E.out).mono ?_
          rintro e w3 ⟨v3, rfl, h3⟩
          rcases h3.l_cells tyEf.len with ⟨h0, _⟩ | ⟨g, off3, cap3, rfl, hc3, _, hcell⟩
          · cases h0
          have d1 : w3.cell? ⟨g, off3 + 1 + 1, none⟩ = some (.int .i64 ri) := hcell 0 _ rfl 2 _ rfl
          have d2 : w3.cell? ⟨g, off3 + 1, none⟩ = some (.int .i64 3) := hcell 0 _ rfl 1 _ rfl
          have d3 : w3.cell? ⟨g, off3 + 1 + 2, none⟩ = some (.int .i64 127) := hcell 0 _ rfl 3 _ rfl
          have h5 := (h3.alloc (.cells #[.int .i64 3, .int .i64 ri, .int .i64 127] 29))
          have h6 : ¬ (k : Int) < 63 := by omega
          have h7 : decide ((k : Int) < 63) = false := by simpa using h6
          obtain ⟨L, hL⟩ : ∃ L, (Ef.said 3 ri 127 :: l').length = L := ⟨_, rfl⟩
          have hL0 : 0 < L := by rw [← hL]; simp
          have hL1 : (0 : Int) < L := by omega
          have hL2 : ((L : Int) == 0) = false := by simp; omega
          rw [hL]
          have H5 := Lib.hid h5
          clear hcell h2 h3 h5 hc3 hL hL0
          go_wp2
          go_roundw
          case rel => exact ⟨k + 1, c', by omega, by go_num, ok', H5.out.drop.drop⟩
          case measure => simp [intOf]; omega
      · obtain rfl : k = m := by omega
        go_wp2_with fail
        refine (so_wakes w _ _ h2).mono ?_
        rintro e w3 ⟨rfl, h3⟩
        go_wp2_with fail
        refine (so_list s _ _ _ _ h3 ok.on).mono ?_
        rintro e w4 ⟨v4, rfl, h4⟩
        obtain ⟨a4, cap4, rfl, _, _⟩ := h4.row_shape
        have hl := (DP_list k).trans hmm
        generalize ((DP k).upto 63).length = n4 at *
        go_wp2
        all_goals
          go_ret
          exact ⟨by simp; omega, h4.drop.drop.old0⟩
end Go.Proofs.Ytbnbknabedgpcaa
