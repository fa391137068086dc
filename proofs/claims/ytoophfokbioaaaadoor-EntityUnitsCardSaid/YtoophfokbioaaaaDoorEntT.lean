/- Which frames may be, and what they carry. -/
import Derived.Test.YtoophfokbioaaaaDoorEntS
namespace Go.Proofs.YtoophfokbioaaaaDoor
open Go.RowKit

/-- the names of the kinds lie in the program's table -/
def NamesAt (w : World) : Prop := ∀ i : Nat, i < 10 → ∃ s : ByteArray, (!s.toList.isEmpty) = true ∧ w.cell? ⟨0, i, none⟩ = some (.string s)
theorem NamesAt.old {w w' : World} {n : Nat} (h : NamesAt w) (hb : Below n w w') (hn : 0 < n) : NamesAt w' := fun i hi => by
  obtain ⟨s, h1, h2⟩ := h i hi
  exact ⟨s, h1, (hb.cell (p := ⟨0, i, none⟩) hn).trans h2⟩
theorem NamesAt.pos {w : World} (h : NamesAt w) : 0 < w.heap.size := by
  obtain ⟨s, _, h2⟩ := h 0 (by decide)
  exact World.block_lt_of_cell? _ _ h2

set_option maxRecDepth 100000 in
theorem k_may (k : Int) (c : Bool) (w : World) : Calls Tryd.prog 25 #[.int .i64 k, .bool c] w fun r w' => r = .returned (.bool (mayK k c)) ∧ w = w' := by
  have ix40 : ∀ w, (Instr.index 89 (.agg #[.int .i64 0, .int .i64 4, .int .i64 6, .int .i64 7]) (.int .i64 0)).run Tryd.prog w = .ok (.int .i64 0) w := fun w => by kernel_rfl
  have ix41 : ∀ w, (Instr.index 89 (.agg #[.int .i64 0, .int .i64 4, .int .i64 6, .int .i64 7]) (.int .i64 1)).run Tryd.prog w = .ok (.int .i64 4) w := fun w => by kernel_rfl
  have ix42 : ∀ w, (Instr.index 89 (.agg #[.int .i64 0, .int .i64 4, .int .i64 6, .int .i64 7]) (.int .i64 2)).run Tryd.prog w = .ok (.int .i64 6) w := fun w => by kernel_rfl
  have ix43 : ∀ w, (Instr.index 89 (.agg #[.int .i64 0, .int .i64 4, .int .i64 6, .int .i64 7]) (.int .i64 3)).run Tryd.prog w = .ok (.int .i64 7) w := fun w => by kernel_rfl
  have ix30 : ∀ w, (Instr.index 90 (.agg #[.int .i64 5, .int .i64 8, .int .i64 9]) (.int .i64 0)).run Tryd.prog w = .ok (.int .i64 5) w := fun w => by kernel_rfl
  have ix31 : ∀ w, (Instr.index 90 (.agg #[.int .i64 5, .int .i64 8, .int .i64 9]) (.int .i64 1)).run Tryd.prog w = .ok (.int .i64 8) w := fun w => by kernel_rfl
  have ix32 : ∀ w, (Instr.index 90 (.agg #[.int .i64 5, .int .i64 8, .int .i64 9]) (.int .i64 2)).run Tryd.prog w = .ok (.int .i64 9) w := fun w => by kernel_rfl
  by_cases h0 : k = 0
  · subst h0
    have e : mayK 0 c = c := rfl
    rw [e]
    clear e
    go_enter Tryd.func25, Tryd.ntmps25
    go_wp2
    go_loop [10] (fun s => ∃ i : Nat, i ≤ 0 ∧ s = .int .i64 i) (fun s => 4 - (intOf s).toNat)
    case atStart => exact ⟨0, by omega, rfl⟩
    case round =>
      obtain ⟨i, hi, rfl⟩ := hrel
      obtain rfl : i = 0 := by omega
      go_wp2
      go_ret
      exact ⟨rfl, rfl⟩
  by_cases h4 : k = 4
  · subst h4
    have e : mayK 4 c = c := rfl
    rw [e]
    clear e
    go_enter Tryd.func25, Tryd.ntmps25
    go_wp2
    go_loop [10] (fun s => ∃ i : Nat, i ≤ 1 ∧ s = .int .i64 i) (fun s => 4 - (intOf s).toNat)
    case atStart => exact ⟨0, by omega, rfl⟩
    case round =>
      obtain ⟨i, hi, rfl⟩ := hrel
      rcases (show i = 0 ∨ i = 1 by omega) with rfl | rfl
      · go_wp2
        go_round
        case rel => exact ⟨0 + 1, by omega, rfl⟩
        case measure => simp [intOf]
      · go_wp2
        go_ret
        exact ⟨rfl, rfl⟩
  by_cases h6 : k = 6
  · subst h6
    have e : mayK 6 c = c := rfl
    rw [e]
    clear e
    go_enter Tryd.func25, Tryd.ntmps25
    go_wp2
    go_loop [10] (fun s => ∃ i : Nat, i ≤ 2 ∧ s = .int .i64 i) (fun s => 4 - (intOf s).toNat)
    case atStart => exact ⟨0, by omega, rfl⟩
    case round =>
      obtain ⟨i, hi, rfl⟩ := hrel
      rcases (show i = 0 ∨ i = 1 ∨ i = 2 by omega) with rfl | rfl | rfl
      · go_wp2
        go_round
        case rel => exact ⟨0 + 1, by omega, rfl⟩
        case measure => simp [intOf]
      · go_wp2
        go_round
        case rel => exact ⟨1 + 1, by omega, rfl⟩
        case measure => simp [intOf]
      · go_wp2
        go_ret
        exact ⟨rfl, rfl⟩
  by_cases h7 : k = 7
  · subst h7
    have e : mayK 7 c = c := rfl
    rw [e]
    clear e
    go_enter Tryd.func25, Tryd.ntmps25
    go_wp2
    go_loop [10] (fun s => ∃ i : Nat, i ≤ 3 ∧ s = .int .i64 i) (fun s => 4 - (intOf s).toNat)
    case atStart => exact ⟨0, by omega, rfl⟩
    case round =>
      obtain ⟨i, hi, rfl⟩ := hrel
      rcases (show i = 0 ∨ i = 1 ∨ i = 2 ∨ i = 3 by omega) with rfl | rfl | rfl | rfl
      · go_wp2
        go_round
        case rel => exact ⟨0 + 1, by omega, rfl⟩
        case measure => simp [intOf]
      · go_wp2
        go_round
        case rel => exact ⟨1 + 1, by omega, rfl⟩
        case measure => simp [intOf]
      · go_wp2
        go_round
        case rel => exact ⟨2 + 1, by omega, rfl⟩
        case measure => simp [intOf]
      · go_wp2
        go_ret
        exact ⟨rfl, rfl⟩
  by_cases h5 : k = 5
  · subst h5
    have e : mayK 5 c = !c := rfl
    rw [e]
    clear e
    go_enter Tryd.func25, Tryd.ntmps25
    go_wp2
    go_loop [10] (fun s => ∃ i : Nat, i ≤ 4 ∧ s = .int .i64 i) (fun s => 4 - (intOf s).toNat)
    case atStart => exact ⟨0, by omega, rfl⟩
    case round =>
      obtain ⟨i, hi, rfl⟩ := hrel
      rcases (show i = 0 ∨ i = 1 ∨ i = 2 ∨ i = 3 ∨ i = 4 by omega) with rfl | rfl | rfl | rfl | rfl
      · go_wp2
        go_round
        case rel => exact ⟨0 + 1, by omega, rfl⟩
        case measure => simp [intOf]
      · go_wp2
        go_round
        case rel => exact ⟨1 + 1, by omega, rfl⟩
        case measure => simp [intOf]
      · go_wp2
        go_round
        case rel => exact ⟨2 + 1, by omega, rfl⟩
        case measure => simp [intOf]
      · go_wp2
        go_round
        case rel => exact ⟨3 + 1, by omega, rfl⟩
        case measure => simp [intOf]
      · go_wp2
        go_loop [19] (fun s => ∃ i : Nat, i ≤ 0 ∧ s = .int .i64 i) (fun s => 3 - (intOf s).toNat)
        case atStart => exact ⟨0, by omega, rfl⟩
        case round =>
          obtain ⟨i, hi, rfl⟩ := hrel
          obtain rfl : i = 0 := by omega
          go_wp2
          go_ret
          exact ⟨rfl, rfl⟩
  by_cases h8 : k = 8
  · subst h8
    have e : mayK 8 c = !c := rfl
    rw [e]
    clear e
    go_enter Tryd.func25, Tryd.ntmps25
    go_wp2
    go_loop [10] (fun s => ∃ i : Nat, i ≤ 4 ∧ s = .int .i64 i) (fun s => 4 - (intOf s).toNat)
    case atStart => exact ⟨0, by omega, rfl⟩
    case round =>
      obtain ⟨i, hi, rfl⟩ := hrel
      rcases (show i = 0 ∨ i = 1 ∨ i = 2 ∨ i = 3 ∨ i = 4 by omega) with rfl | rfl | rfl | rfl | rfl
      · go_wp2
        go_round
        case rel => exact ⟨0 + 1, by omega, rfl⟩
        case measure => simp [intOf]
      · go_wp2
        go_round
        case rel => exact ⟨1 + 1, by omega, rfl⟩
        case measure => simp [intOf]
      · go_wp2
        go_round
        case rel => exact ⟨2 + 1, by omega, rfl⟩
        case measure => simp [intOf]
      · go_wp2
        go_round
        case rel => exact ⟨3 + 1, by omega, rfl⟩
        case measure => simp [intOf]
      · go_wp2
        go_loop [19] (fun s => ∃ i : Nat, i ≤ 1 ∧ s = .int .i64 i) (fun s => 3 - (intOf s).toNat)
        case atStart => exact ⟨0, by omega, rfl⟩
        case round =>
          obtain ⟨i, hi, rfl⟩ := hrel
          rcases (show i = 0 ∨ i = 1 by omega) with rfl | rfl
          · go_wp2
            go_round
            case rel => exact ⟨0 + 1, by omega, rfl⟩
            case measure => simp [intOf]
          · go_wp2
            go_ret
            exact ⟨rfl, rfl⟩
  by_cases h9 : k = 9
  · subst h9
    have e : mayK 9 c = !c := rfl
    rw [e]
    clear e
    go_enter Tryd.func25, Tryd.ntmps25
    go_wp2
    go_loop [10] (fun s => ∃ i : Nat, i ≤ 4 ∧ s = .int .i64 i) (fun s => 4 - (intOf s).toNat)
    case atStart => exact ⟨0, by omega, rfl⟩
    case round =>
      obtain ⟨i, hi, rfl⟩ := hrel
      rcases (show i = 0 ∨ i = 1 ∨ i = 2 ∨ i = 3 ∨ i = 4 by omega) with rfl | rfl | rfl | rfl | rfl
      · go_wp2
        go_round
        case rel => exact ⟨0 + 1, by omega, rfl⟩
        case measure => simp [intOf]
      · go_wp2
        go_round
        case rel => exact ⟨1 + 1, by omega, rfl⟩
        case measure => simp [intOf]
      · go_wp2
        go_round
        case rel => exact ⟨2 + 1, by omega, rfl⟩
        case measure => simp [intOf]
      · go_wp2
        go_round
        case rel => exact ⟨3 + 1, by omega, rfl⟩
        case measure => simp [intOf]
      · go_wp2
        go_loop [19] (fun s => ∃ i : Nat, i ≤ 2 ∧ s = .int .i64 i) (fun s => 3 - (intOf s).toNat)
        case atStart => exact ⟨0, by omega, rfl⟩
        case round =>
          obtain ⟨i, hi, rfl⟩ := hrel
          rcases (show i = 0 ∨ i = 1 ∨ i = 2 by omega) with rfl | rfl | rfl
          · go_wp2
            go_round
            case rel => exact ⟨0 + 1, by omega, rfl⟩
            case measure => simp [intOf]
          · go_wp2
            go_round
            case rel => exact ⟨1 + 1, by omega, rfl⟩
            case measure => simp [intOf]
          · go_wp2
            go_ret
            exact ⟨rfl, rfl⟩
  have e : mayK k c = numb k := by unfold mayK; rw [if_neg (by omega), if_neg (by omega)]
  rw [e]
  clear e
  have b0 : (k == 0) = false := by simpa using h0
  have b4 : (k == 4) = false := by simpa using h4
  have b6 : (k == 6) = false := by simpa using h6
  have b7 : (k == 7) = false := by simpa using h7
  have b5 : (k == 5) = false := by simpa using h5
  have b8 : (k == 8) = false := by simpa using h8
  have b9 : (k == 9) = false := by simpa using h9
  clear h0 h4 h6 h7 h5 h8 h9
  go_enter Tryd.func25, Tryd.ntmps25
  go_wp2
  go_loop [10] (fun s => ∃ i : Nat, i ≤ 4 ∧ s = .int .i64 i) (fun s => 4 - (intOf s).toNat)
  case atStart => exact ⟨0, by omega, rfl⟩
  case round =>
    obtain ⟨i, hi, rfl⟩ := hrel
    rcases (show i = 0 ∨ i = 1 ∨ i = 2 ∨ i = 3 ∨ i = 4 by omega) with rfl | rfl | rfl | rfl | rfl
    · go_wp2
      go_round
      case rel => exact ⟨0 + 1, by omega, rfl⟩
      case measure => simp [intOf]
    · go_wp2
      go_round
      case rel => exact ⟨1 + 1, by omega, rfl⟩
      case measure => simp [intOf]
    · go_wp2
      go_round
      case rel => exact ⟨2 + 1, by omega, rfl⟩
      case measure => simp [intOf]
    · go_wp2
      go_round
      case rel => exact ⟨3 + 1, by omega, rfl⟩
      case measure => simp [intOf]
    · go_wp2
      go_loop [19] (fun s => ∃ i : Nat, i ≤ 3 ∧ s = .int .i64 i) (fun s => 3 - (intOf s).toNat)
      case atStart => exact ⟨0, by omega, rfl⟩
      case round =>
        obtain ⟨i, hi, rfl⟩ := hrel
        rcases (show i = 0 ∨ i = 1 ∨ i = 2 ∨ i = 3 by omega) with rfl | rfl | rfl | rfl
        · go_wp2
          go_round
          case rel => exact ⟨0 + 1, by omega, rfl⟩
          case measure => simp [intOf]
        · go_wp2
          go_round
          case rel => exact ⟨1 + 1, by omega, rfl⟩
          case measure => simp [intOf]
        · go_wp2
          go_round
          case rel => exact ⟨2 + 1, by omega, rfl⟩
          case measure => simp [intOf]
        · go_wp2_with fail
          refine (k_numb k w).mono ?_
          rintro r w1 ⟨rfl, rfl⟩
          go_wp2
          go_ret
          exact ⟨rfl, rfl⟩

theorem k_good (k : Int) (w : World) : Calls Tryd.prog 59 #[.int .i64 k] w fun r w' => r = .returned (.bool (decide (0 ≤ k) && decide (k < 10))) ∧ w = w' := by
  by_cases h0 : 0 ≤ k
  · have b0 : decide (0 ≤ k) = true := by simpa using h0
    have b1 : decide (k ≥ 0) = true := by simpa using h0
    rw [b0]
    go_enter Tryd.func59, Tryd.ntmps59
    go_wp2
    go_ret
    exact ⟨rfl, rfl⟩
  · have b0 : decide (0 ≤ k) = false := by simpa using h0
    have b1 : decide (k ≥ 0) = false := by simpa using h0
    rw [b0]
    go_enter Tryd.func59, Tryd.ntmps59
    go_wp2
    go_ret
    exact ⟨rfl, rfl⟩

theorem k_name (k : Int) (w : World) (hN : NamesAt w) : Calls Tryd.prog 49 #[.int .i64 k] w fun r w' => (∃ s : ByteArray, r = .returned (.string s) ∧ (!s.toList.isEmpty) = (decide (0 ≤ k) && decide (k < 10))) ∧ w = w' := by
  by_cases h0 : 0 ≤ k ∧ k < 10
  · have b : (decide (0 ≤ k) && decide (k < 10)) = true := by simp [h0]
    rw [b]
    have hg := k_good k w
    rw [b] at hg
    obtain ⟨i, hi⟩ : ∃ i : Nat, k = i := ⟨k.toNat, by omega⟩
    subst hi
    obtain ⟨s, hs, hc⟩ := hN i (by omega)
    have i1 : 0 ≤ (i : Int) := by omega
    have i2 : (i : Int) < 10 := h0.2
    have hS := Lib.hid hs
    clear b hs
    go_enter Tryd.func49, Tryd.ntmps49
    go_wp2_with fail
    refine hg.mono ?_
    rintro r w1 ⟨rfl, rfl⟩
    go_wp2
    go_ret
    exact ⟨⟨s, rfl, hS.out⟩, rfl⟩
  · have b : (decide (0 ≤ k) && decide (k < 10)) = false := by
      cases h : (decide (0 ≤ k) && decide (k < 10)) with
      | false => rfl
      | true => exact absurd (by simpa using h) h0
    have hg := k_good k w
    rw [b] at hg ⊢
    clear b
    go_enter Tryd.func49, Tryd.ntmps49
    go_wp2_with fail
    refine hg.mono ?_
    rintro r w1 ⟨rfl, rfl⟩
    go_wp2
    go_ret
    exact ⟨⟨noStr, rfl, by decide +kernel⟩, rfl⟩

theorem k_carries (k n : Int) (w : World) (hN : NamesAt w) : Calls Tryd.prog 26 #[.int .i64 k, .int .i64 n] w fun r w' => r = .returned (.bool (carries k n)) ∧ w = w' := by
  by_cases h06 : k = 0 ∨ k = 6
  · have e : carries k n = (decide (0 ≤ n) && decide (n ≤ 260)) := by unfold carries; rw [if_pos h06]
    rw [e]
    clear e
    by_cases h0 : 0 ≤ n
    · have b0 : decide (0 ≤ n) = true := by simpa using h0
      have b1 : decide (n ≥ 0) = true := by simpa using h0
      rw [b0]
      rcases h06 with rfl | rfl
      all_goals (
        go_enter Tryd.func26, Tryd.ntmps26
        go_wp2
        go_ret
        exact ⟨rfl, rfl⟩)
    · have b0 : decide (0 ≤ n) = false := by simpa using h0
      have b1 : decide (n ≥ 0) = false := by simpa using h0
      rw [b0]
      rcases h06 with rfl | rfl
      all_goals (
        go_enter Tryd.func26, Tryd.ntmps26
        go_wp2
        go_ret
        exact ⟨rfl, rfl⟩)
  by_cases h9 : k = 9
  · subst h9
    have e : carries 9 n = (n == 5) := rfl
    rw [e]
    clear e
    go_enter Tryd.func26, Tryd.ntmps26
    go_wp2
    go_ret
    exact ⟨rfl, rfl⟩
  have e : carries k n = (n == 0 && (decide (0 ≤ k) && decide (k < 10))) := by unfold carries; rw [if_neg h06, if_neg h9]
  rw [e]
  clear e
  have b0 : (k == 0) = false := by simpa using fun h => h06 (.inl h)
  have b6 : (k == 6) = false := by simpa using fun h => h06 (.inr h)
  have b9 : (k == 9) = false := by simpa using h9
  by_cases hn : n = 0
  · subst hn
    have hk := k_name k w hN
    obtain ⟨G, hG⟩ : ∃ G, (decide (0 ≤ k) && decide (k < 10)) = G := ⟨_, rfl⟩
    rw [hG] at hk ⊢
    clear hG
    go_enter Tryd.func26, Tryd.ntmps26
    go_wp2_with fail
    refine hk.mono ?_
    rintro r w1 ⟨⟨s, rfl, hs⟩, rfl⟩
    go_wp2
    go_ret
    exact ⟨by rw [← hs]; rfl, rfl⟩
  · have bn : (n == 0) = false := by simpa using hn
    rw [bn]
    go_enter Tryd.func26, Tryd.ntmps26
    go_wp2
    go_ret
    exact ⟨rfl, rfl⟩
end Go.Proofs.YtoophfokbioaaaaDoor
