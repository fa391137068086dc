/- Which frames may be, and what they carry. The entity: a frame comes. The entity: Timeout, Assign, View. -/
import Derived.Test.YtnnahljdhdippaaGreatDoorB8
namespace Go.Proofs.YtnnahljdhdippaaGreatDoor
open Go.RowKit

/-- the names of the kinds lie in the program's table -/
def NamesAt (w : World) : Prop := ∀ i : Nat, i < 10 → ∃ s : ByteArray, (!s.toList.isEmpty) = true ∧ w.cell? ⟨2, i, none⟩ = some (.string s)
theorem NamesAt.old {w w' : World} {n : Nat} (h : NamesAt w) (hb : Below n w w') (hn : 2 < n) : NamesAt w' := fun i hi => by
  obtain ⟨s, h1, h2⟩ := h i hi
  exact ⟨s, h1, (hb.cell (p := ⟨2, i, none⟩) hn).trans h2⟩
theorem NamesAt.pos {w : World} (h : NamesAt w) : 2 < w.heap.size := by
  obtain ⟨s, _, h2⟩ := h 0 (by decide)
  exact World.block_lt_of_cell? _ _ h2

set_option maxRecDepth 100000 in
theorem k_may (k : Int) (c : Bool) (w : World) : Calls Tryz.prog 59 #[.int .i64 k, .bool c] w fun r w' => r = .returned (.bool (mayK k c)) ∧ w = w' := by
  have ix40 : ∀ w, (Instr.index 259 (.agg #[.int .i64 0, .int .i64 4, .int .i64 6, .int .i64 7]) (.int .i64 0)).run Tryz.prog w = .ok (.int .i64 0) w := fun w => by kernel_rfl
  have ix41 : ∀ w, (Instr.index 259 (.agg #[.int .i64 0, .int .i64 4, .int .i64 6, .int .i64 7]) (.int .i64 1)).run Tryz.prog w = .ok (.int .i64 4) w := fun w => by kernel_rfl
  have ix42 : ∀ w, (Instr.index 259 (.agg #[.int .i64 0, .int .i64 4, .int .i64 6, .int .i64 7]) (.int .i64 2)).run Tryz.prog w = .ok (.int .i64 6) w := fun w => by kernel_rfl
  have ix43 : ∀ w, (Instr.index 259 (.agg #[.int .i64 0, .int .i64 4, .int .i64 6, .int .i64 7]) (.int .i64 3)).run Tryz.prog w = .ok (.int .i64 7) w := fun w => by kernel_rfl
  have ix30 : ∀ w, (Instr.index 260 (.agg #[.int .i64 5, .int .i64 8, .int .i64 9]) (.int .i64 0)).run Tryz.prog w = .ok (.int .i64 5) w := fun w => by kernel_rfl
  have ix31 : ∀ w, (Instr.index 260 (.agg #[.int .i64 5, .int .i64 8, .int .i64 9]) (.int .i64 1)).run Tryz.prog w = .ok (.int .i64 8) w := fun w => by kernel_rfl
  have ix32 : ∀ w, (Instr.index 260 (.agg #[.int .i64 5, .int .i64 8, .int .i64 9]) (.int .i64 2)).run Tryz.prog w = .ok (.int .i64 9) w := fun w => by kernel_rfl
  by_cases h0 : k = 0
  · subst h0
    have e : mayK 0 c = c := rfl
    rw [e]
    clear e
    go_enter Tryz.func59, Tryz.ntmps59
    go_wp2
    go_loop [10] (fun s => ∃ i : Nat, i ≤ 0 ∧ s = .int .i64 i) (fun s => 4 - (intOf s).toNat)
    case atStart => exact ⟨0, by omega, rfl⟩
    case round =>
      obtain ⟨i, hi, rfl⟩ := hrel
      obtain rfl : i = 0 := by omega
      go_wp2
      go_ret
      exact ⟨rfl, rfl⟩
  by_cases h4 : k = 4
  · subst h4
    have e : mayK 4 c = c := rfl
    rw [e]
    clear e
    go_enter Tryz.func59, Tryz.ntmps59
    go_wp2
    go_loop [10] (fun s => ∃ i : Nat, i ≤ 1 ∧ s = .int .i64 i) (fun s => 4 - (intOf s).toNat)
    case atStart => exact ⟨0, by omega, rfl⟩
    case round =>
      obtain ⟨i, hi, rfl⟩ := hrel
      rcases (show i = 0 ∨ i = 1 by omega) with rfl | rfl
      · go_wp2
        go_round
        case rel => exact ⟨0 + 1, by omega, rfl⟩
        case measure => simp [intOf]
      · go_wp2
        go_ret
        exact ⟨rfl, rfl⟩
  by_cases h6 : k = 6
  · subst h6
    have e : mayK 6 c = c := rfl
    rw [e]
    clear e
    go_enter Tryz.func59, Tryz.ntmps59
    go_wp2
    go_loop [10] (fun s => ∃ i : Nat, i ≤ 2 ∧ s = .int .i64 i) (fun s => 4 - (intOf s).toNat)
    case atStart => exact ⟨0, by omega, rfl⟩
    case round =>
      obtain ⟨i, hi, rfl⟩ := hrel
      rcases (show i = 0 ∨ i = 1 ∨ i = 2 by omega) with rfl | rfl | rfl
      · go_wp2
        go_round
        case rel => exact ⟨0 + 1, by omega, rfl⟩
        case measure => simp [intOf]
      · go_wp2
        go_round
        case rel => exact ⟨1 + 1, by omega, rfl⟩
        case measure => simp [intOf]
      · go_wp2
        go_ret
        exact ⟨rfl, rfl⟩
  by_cases h7 : k = 7
  · subst h7
    have e : mayK 7 c = c := rfl
    rw [e]
    clear e
    go_enter Tryz.func59, Tryz.ntmps59
    go_wp2
    go_loop [10] (fun s => ∃ i : Nat, i ≤ 3 ∧ s = .int .i64 i) (fun s => 4 - (intOf s).toNat)
    case atStart => exact ⟨0, by omega, rfl⟩
    case round =>
      obtain ⟨i, hi, rfl⟩ := hrel
      rcases (show i = 0 ∨ i = 1 ∨ i = 2 ∨ i = 3 by omega) with rfl | rfl | rfl | rfl
      · go_wp2
        go_round
        case rel => exact ⟨0 + 1, by omega, rfl⟩
        case measure => simp [intOf]
      · go_wp2
        go_round
        case rel => exact ⟨1 + 1, by omega, rfl⟩
        case measure => simp [intOf]
      · go_wp2
        go_round
        case rel => exact ⟨2 + 1, by omega, rfl⟩
        case measure => simp [intOf]
      · go_wp2
        go_ret
        exact ⟨rfl, rfl⟩
  by_cases h5 : k = 5
  · subst h5
    have e : mayK 5 c = !c := rfl
    rw [e]
    clear e
    go_enter Tryz.func59, Tryz.ntmps59
    go_wp2
    go_loop [10] (fun s => ∃ i : Nat, i ≤ 4 ∧ s = .int .i64 i) (fun s => 4 - (intOf s).toNat)
    case atStart => exact ⟨0, by omega, rfl⟩
    case round =>
      obtain ⟨i, hi, rfl⟩ := hrel
      rcases (show i = 0 ∨ i = 1 ∨ i = 2 ∨ i = 3 ∨ i = 4 by omega) with rfl | rfl | rfl | rfl | rfl
      · go_wp2
        go_round
        case rel => exact ⟨0 + 1, by omega, rfl⟩
        case measure => simp [intOf]
      · go_wp2
        go_round
        case rel => exact ⟨1 + 1, by omega, rfl⟩
        case measure => simp [intOf]
      · go_wp2
        go_round
        case rel => exact ⟨2 + 1, by omega, rfl⟩
        case measure => simp [intOf]
      · go_wp2
        go_round
        case rel => exact ⟨3 + 1, by omega, rfl⟩
        case measure => simp [intOf]
      · go_wp2
        go_loop [19] (fun s => ∃ i : Nat, i ≤ 0 ∧ s = .int .i64 i) (fun s => 3 - (intOf s).toNat)
        case atStart => exact ⟨0, by omega, rfl⟩
        case round =>
          obtain ⟨i, hi, rfl⟩ := hrel
          obtain rfl : i = 0 := by omega
          go_wp2
          go_ret
          exact ⟨rfl, rfl⟩
  by_cases h8 : k = 8
  · subst h8
    have e : mayK 8 c = !c := rfl
    rw [e]
    clear e
    go_enter Tryz.func59, Tryz.ntmps59
    go_wp2
    go_loop [10] (fun s => ∃ i : Nat, i ≤ 4 ∧ s = .int .i64 i) (fun s => 4 - (intOf s).toNat)
    case atStart => exact ⟨0, by omega, rfl⟩
    case round =>
      obtain ⟨i, hi, rfl⟩ := hrel
      rcases (show i = 0 ∨ i = 1 ∨ i = 2 ∨ i = 3 ∨ i = 4 by omega) with rfl | rfl | rfl | rfl | rfl
      · go_wp2
        go_round
        case rel => exact ⟨0 + 1, by omega, rfl⟩
        case measure => simp [intOf]
      · go_wp2
        go_round
        case rel => exact ⟨1 + 1, by omega, rfl⟩
        case measure => simp [intOf]
      · go_wp2
        go_round
        case rel => exact ⟨2 + 1, by omega, rfl⟩
        case measure => simp [intOf]
      · go_wp2
        go_round
        case rel => exact ⟨3 + 1, by omega, rfl⟩
        case measure => simp [intOf]
      · go_wp2
        go_loop [19] (fun s => ∃ i : Nat, i ≤ 1 ∧ s = .int .i64 i) (fun s => 3 - (intOf s).toNat)
        case atStart => exact ⟨0, by omega, rfl⟩
        case round =>
          obtain ⟨i, hi, rfl⟩ := hrel
          rcases (show i = 0 ∨ i = 1 by omega) with rfl | rfl
          · go_wp2
            go_round
            case rel => exact ⟨0 + 1, by omega, rfl⟩
            case measure => simp [intOf]
          · go_wp2
            go_ret
            exact ⟨rfl, rfl⟩
  by_cases h9 : k = 9
  · subst h9
    have e : mayK 9 c = !c := rfl
    rw [e]
    clear e
    go_enter Tryz.func59, Tryz.ntmps59
    go_wp2
    go_loop [10] (fun s => ∃ i : Nat, i ≤ 4 ∧ s = .int .i64 i) (fun s => 4 - (intOf s).toNat)
    case atStart => exact ⟨0, by omega, rfl⟩
    case round =>
      obtain ⟨i, hi, rfl⟩ := hrel
      rcases (show i = 0 ∨ i = 1 ∨ i = 2 ∨ i = 3 ∨ i = 4 by omega) with rfl | rfl | rfl | rfl | rfl
      · go_wp2
        go_round
        case rel => exact ⟨0 + 1, by omega, rfl⟩
        case measure => simp [intOf]
      · go_wp2
        go_round
        case rel => exact ⟨1 + 1, by omega, rfl⟩
        case measure => simp [intOf]
      · go_wp2
        go_round
        case rel => exact ⟨2 + 1, by omega, rfl⟩
        case measure => simp [intOf]
      · go_wp2
        go_round
        case rel => exact ⟨3 + 1, by omega, rfl⟩
        case measure => simp [intOf]
      · go_wp2
        go_loop [19] (fun s => ∃ i : Nat, i ≤ 2 ∧ s = .int .i64 i) (fun s => 3 - (intOf s).toNat)
        case atStart => exact ⟨0, by omega, rfl⟩
        case round =>
          obtain ⟨i, hi, rfl⟩ := hrel
          rcases (show i = 0 ∨ i = 1 ∨ i = 2 by omega) with rfl | rfl | rfl
          · go_wp2
            go_round
            case rel => exact ⟨0 + 1, by omega, rfl⟩
            case measure => simp [intOf]
          · go_wp2
            go_round
            case rel => exact ⟨1 + 1, by omega, rfl⟩
            case measure => simp [intOf]
          · go_wp2
            go_ret
            exact ⟨rfl, rfl⟩
  have e : mayK k c = numb k := by unfold mayK; rw [if_neg (by omega), if_neg (by omega)]
  rw [e]
  clear e
  have b0 : (k == 0) = false := by simpa using h0
  have b4 : (k == 4) = false := by simpa using h4
  have b6 : (k == 6) = false := by simpa using h6
  have b7 : (k == 7) = false := by simpa using h7
  have b5 : (k == 5) = false := by simpa using h5
  have b8 : (k == 8) = false := by simpa using h8
  have b9 : (k == 9) = false := by simpa using h9
  clear h0 h4 h6 h7 h5 h8 h9
  go_enter Tryz.func59, Tryz.ntmps59
  go_wp2
  go_loop [10] (fun s => ∃ i : Nat, i ≤ 4 ∧ s = .int .i64 i) (fun s => 4 - (intOf s).toNat)
  case atStart => exact ⟨0, by omega, rfl⟩
  case round =>
    obtain ⟨i, hi, rfl⟩ := hrel
    rcases (show i = 0 ∨ i = 1 ∨ i = 2 ∨ i = 3 ∨ i = 4 by omega) with rfl | rfl | rfl | rfl | rfl
    · go_wp2
      go_round
      case rel => exact ⟨0 + 1, by omega, rfl⟩
      case measure => simp [intOf]
    · go_wp2
      go_round
      case rel => exact ⟨1 + 1, by omega, rfl⟩
      case measure => simp [intOf]
    · go_wp2
      go_round
      case rel => exact ⟨2 + 1, by omega, rfl⟩
      case measure => simp [intOf]
    · go_wp2
      go_round
      case rel => exact ⟨3 + 1, by omega, rfl⟩
      case measure => simp [intOf]
    · go_wp2
      go_loop [19] (fun s => ∃ i : Nat, i ≤ 3 ∧ s = .int .i64 i) (fun s => 3 - (intOf s).toNat)
      case atStart => exact ⟨0, by omega, rfl⟩
      case round =>
        obtain ⟨i, hi, rfl⟩ := hrel
        rcases (show i = 0 ∨ i = 1 ∨ i = 2 ∨ i = 3 by omega) with rfl | rfl | rfl | rfl
        · go_wp2
          go_round
          case rel => exact ⟨0 + 1, by omega, rfl⟩
          case measure => simp [intOf]
        · go_wp2
          go_round
          case rel => exact ⟨1 + 1, by omega, rfl⟩
          case measure => simp [intOf]
        · go_wp2
          go_round
          case rel => exact ⟨2 + 1, by omega, rfl⟩
          case measure => simp [intOf]
        · go_wp2_with fail
          refine (k_numb k w).mono ?_
          rintro r w1 ⟨rfl, rfl⟩
          go_wp2
          go_ret
          exact ⟨rfl, rfl⟩

theorem k_good (k : Int) (w : World) : Calls Tryz.prog 208 #[.int .i64 k] w fun r w' => r = .returned (.bool (decide (0 ≤ k) && decide (k < 10))) ∧ w = w' := by
  by_cases h0 : 0 ≤ k
  · have b0 : decide (0 ≤ k) = true := by simpa using h0
    have b1 : decide (k ≥ 0) = true := by simpa using h0
    rw [b0]
    go_enter Tryz.func208, Tryz.ntmps208
    go_wp2
    go_ret
    exact ⟨rfl, rfl⟩
  · have b0 : decide (0 ≤ k) = false := by simpa using h0
    have b1 : decide (k ≥ 0) = false := by simpa using h0
    rw [b0]
    go_enter Tryz.func208, Tryz.ntmps208
    go_wp2
    go_ret
    exact ⟨rfl, rfl⟩

theorem k_name (k : Int) (w : World) (hN : NamesAt w) : Calls Tryz.prog 123 #[.int .i64 k] w fun r w' => (∃ s : ByteArray, r = .returned (.string s) ∧ (!s.toList.isEmpty) = (decide (0 ≤ k) && decide (k < 10))) ∧ w = w' := by
  by_cases h0 : 0 ≤ k ∧ k < 10
  · have b : (decide (0 ≤ k) && decide (k < 10)) = true := by simp [h0]
    rw [b]
    have hg := k_good k w
    rw [b] at hg
    obtain ⟨i, hi⟩ : ∃ i : Nat, k = i := ⟨k.toNat, by omega⟩
    subst hi
    obtain ⟨s, hs, hc⟩ := hN i (by omega)
    have i1 : 0 ≤ (i : Int) := by omega
    have i2 : (i : Int) < 10 := h0.2
    have hS := Lib.hid hs
    clear b hs
    go_enter Tryz.func123, Tryz.ntmps123
    go_wp2_with fail
    refine hg.mono ?_
    rintro r w1 ⟨rfl, rfl⟩
    go_wp2
    go_ret
    exact ⟨⟨s, rfl, hS.out⟩, rfl⟩
  · have b : (decide (0 ≤ k) && decide (k < 10)) = false := by
      cases h : (decide (0 ≤ k) && decide (k < 10)) with
      | false => rfl
      | true => exact absurd (by simpa using h) h0
    have hg := k_good k w
    rw [b] at hg ⊢
    clear b
    go_enter Tryz.func123, Tryz.ntmps123
    go_wp2_with fail
    refine hg.mono ?_
    rintro r w1 ⟨rfl, rfl⟩
    go_wp2
    go_ret
    exact ⟨⟨noStr, rfl, by decide +kernel⟩, rfl⟩

theorem k_carries (k n : Int) (w : World) (hN : NamesAt w) : Calls Tryz.prog 60 #[.int .i64 k, .int .i64 n] w fun r w' => r = .returned (.bool (carries k n)) ∧ w = w' := by
  by_cases h06 : k = 0 ∨ k = 6
  · have e : carries k n = (decide (0 ≤ n) && decide (n ≤ 260)) := by unfold carries; rw [if_pos h06]
    rw [e]
    clear e
    by_cases h0 : 0 ≤ n
    · have b0 : decide (0 ≤ n) = true := by simpa using h0
      have b1 : decide (n ≥ 0) = true := by simpa using h0
      rw [b0]
      rcases h06 with rfl | rfl
      all_goals (
        go_enter Tryz.func60, Tryz.ntmps60
        go_wp2
        go_ret
        exact ⟨rfl, rfl⟩)
    · have b0 : decide (0 ≤ n) = false := by simpa using h0
      have b1 : decide (n ≥ 0) = false := by simpa using h0
      rw [b0]
      rcases h06 with rfl | rfl
      all_goals (
        go_enter Tryz.func60, Tryz.ntmps60
        go_wp2
        go_ret
        exact ⟨rfl, rfl⟩)
  by_cases h9 : k = 9
  · subst h9
    have e : carries 9 n = (n == 5) := rfl
    rw [e]
    clear e
    go_enter Tryz.func60, Tryz.ntmps60
    go_wp2
    go_ret
    exact ⟨rfl, rfl⟩
  have e : carries k n = (n == 0 && (decide (0 ≤ k) && decide (k < 10))) := by unfold carries; rw [if_neg h06, if_neg h9]
  rw [e]
  clear e
  have b0 : (k == 0) = false := by simpa using fun h => h06 (.inl h)
  have b6 : (k == 6) = false := by simpa using fun h => h06 (.inr h)
  have b9 : (k == 9) = false := by simpa using h9
  by_cases hn : n = 0
  · subst hn
    have hk := k_name k w hN
    obtain ⟨G, hG⟩ : ∃ G, (decide (0 ≤ k) && decide (k < 10)) = G := ⟨_, rfl⟩
    rw [hG] at hk ⊢
    clear hG
    go_enter Tryz.func60, Tryz.ntmps60
    go_wp2_with fail
    refine hk.mono ?_
    rintro r w1 ⟨⟨s, rfl, hs⟩, rfl⟩
    go_wp2
    go_ret
    exact ⟨by rw [← hs]; rfl, rfl⟩
  · have bn : (n == 0) = false := by simpa using hn
    rw [bn]
    go_enter Tryz.func60, Tryz.ntmps60
    go_wp2
    go_ret
    exact ⟨rfl, rfl⟩
end Go.Proofs.YtnnahljdhdippaaGreatDoor

namespace Go.Proofs.YtnnahljdhdippaaGreatDoor
open Go.RowKit

theorem e_inOpen (e : Nat) (x : En) (y : Fr) (ok : x.fl.Ok) (hs : x.state = 7 ∨ x.state = 8) (hl : x.out.length ≤ 96000) (w0 w : World) (R : HP) (h : St w0 w (EnAt e x * R)) :
    Calls Tryz.prog 187 #[ptr e, .agg y.cells.toArray] w fun r w' => r = .returned (.tuple #[]) ∧ St w0 w' (EnAt e (x.inOpen y) * R) := by
  obtain ⟨a1, a2, a3, k, pf, a6, a7, a8⟩ := y
  have h2 := h.alloc (.cells (Fr.cells ⟨a1, a2, a3, k, pf, a6, a7, a8⟩).toArray TFr)
  clear h
  unfold En.inOpen
  simp only []
  by_cases k4 : k = 4
  · subst k4
    rw [if_pos rfl]
    have l1 := x.send_len 8 false pf
    have l2 := (x.send 8 false pf).told_len 7 ⟨#[70]⟩
    have l3 := ((x.send 8 false pf).told 7 ⟨#[70]⟩).unsure_len
    have ok3 := ((x.send 8 false pf).told 7 ⟨#[70]⟩).unsure_ok ok
    go_enter Tryz.func187, Tryz.ntmps187
    go_upto_region 1 with fail
    generalize w.alloc _ = wa at *
    generalize w.heap.size = ga at *
    have d := h2.cell
    go_wp2_with fail
    refine (e_reply e x 8 ⟨a1, a2, a3, 4, pf, a6, a7, a8⟩ ok (by omega) w0 _ _ h2.f2).mono ?_
    rintro r w1 ⟨rfl, h3⟩
    clear d h2
    go_wp2_with fail
    refine (e_told e (x.send 8 false pf) 7 ⟨#[70]⟩ (by omega) w0 _ _ h3).mono ?_
    rintro r w2 ⟨rfl, h4⟩
    go_wp2_with fail
    refine (e_unsure e ((x.send 8 false pf).told 7 ⟨#[70]⟩) ok (by omega) w0 _ _ h4).mono ?_
    rintro r w3 ⟨rfl, h5⟩
    go_wp2_with fail
    refine (e_open1 e ((x.send 8 false pf).told 7 ⟨#[70]⟩).unsure ok3 (by omega) w0 _ _ h5).mono ?_
    rintro r w9 ⟨rfl, h9⟩
    go_wp2
    first
      | (go_end0; exact ⟨rfl, h9.f2.drop⟩)
      | (refine bodyPost_ret (v := .tuple #[]) (by simp [results, go_sem]) rfl ?_; exact ⟨rfl, h9.f2.drop⟩)
  rw [if_neg k4]
  have b4 : (k == 4) = false := by simpa using k4
  by_cases k7 : k = 7
  · subst k7
    rw [if_pos rfl]
    have l1 := x.send_len 8 false pf
    have l2 := (x.send 8 false pf).told_len 3 noStr
    go_enter Tryz.func187, Tryz.ntmps187
    go_upto_region 1 with fail
    generalize w.alloc _ = wa at *
    generalize w.heap.size = ga at *
    have d := h2.cell
    go_wp2_with fail
    refine (e_reply e x 8 ⟨a1, a2, a3, 7, pf, a6, a7, a8⟩ ok (by omega) w0 _ _ h2.f2).mono ?_
    rintro r w1 ⟨rfl, h3⟩
    clear d h2
    go_wp2_with fail
    refine (e_told e (x.send 8 false pf) 3 noStr (by omega) w0 _ _ h3).mono ?_
    rintro r w2 ⟨rfl, h4⟩
    go_wp2_with fail
    refine (e_end e ((x.send 8 false pf).told 3 noStr) ok (by omega) w0 _ _ h4).mono ?_
    rintro r w9 ⟨rfl, h9⟩
    go_wp2
    first
      | (go_end0; exact ⟨rfl, h9.f2.drop⟩)
      | (refine bodyPost_ret (v := .tuple #[]) (by simp [results, go_sem]) rfl ?_; exact ⟨rfl, h9.f2.drop⟩)
  rw [if_neg k7]
  have b7 : (k == 7) = false := by simpa using k7
  by_cases k8 : k = 8
  · subst k8
    rw [if_pos rfl]
    go_enter Tryz.func187, Tryz.ntmps187
    go_upto_region 1 with fail
    generalize w.alloc _ = wa at *
    generalize w.heap.size = ga at *
    have d := h2.cell
    go_wp2_with fail
    refine (e_strange e x ⟨a1, a2, a3, 8, pf, a6, a7, a8⟩ (by omega) w0 _ _ h2.f2).mono ?_
    rintro r w9 ⟨rfl, h9⟩
    go_wp2
    first
      | (go_end0; exact ⟨rfl, h9.f2.drop⟩)
      | (refine bodyPost_ret (v := .tuple #[]) (by simp [results, go_sem]) rfl ?_; exact ⟨rfl, h9.f2.drop⟩)
  rw [if_neg k8]
  have b8 : (k == 8) = false := by simpa using k8
  by_cases k5 : k = 5
  · subst k5
    rw [if_pos rfl]
    cases pf with
    | true =>
      rw [if_pos rfl]
      go_enter Tryz.func187, Tryz.ntmps187
      go_upto_region 1 with fail
      generalize w.alloc _ = wa at *
      generalize w.heap.size = ga at *
      have d := h2.cell
      go_wp2_with fail
      refine (e_anew e x ⟨#[66]⟩ ok (by omega) w0 _ _ h2.f2).mono ?_
      rintro r w9 ⟨rfl, h9⟩
      go_wp2
      first
        | (go_end0; exact ⟨rfl, h9.f2.drop⟩)
        | (refine bodyPost_ret (v := .tuple #[]) (by simp [results, go_sem]) rfl ?_; exact ⟨rfl, h9.f2.drop⟩)
    | false =>
      rw [if_neg (by simp)]
      go_enter Tryz.func187, Tryz.ntmps187
      go_upto_region 1 with fail
      generalize w.alloc _ = wa at *
      generalize w.heap.size = ga at *
      have d := h2.cell
      go_wp2_with fail
      refine (e_anew e x ⟨#[69]⟩ ok (by omega) w0 _ _ h2.f2).mono ?_
      rintro r w9 ⟨rfl, h9⟩
      go_wp2
      first
        | (go_end0; exact ⟨rfl, h9.f2.drop⟩)
        | (refine bodyPost_ret (v := .tuple #[]) (by simp [results, go_sem]) rfl ?_; exact ⟨rfl, h9.f2.drop⟩)
  rw [if_neg k5]
  have b5 : (k == 5) = false := by simpa using k5
  by_cases k9 : k = 9
  · subst k9
    rw [if_pos rfl]
    go_enter Tryz.func187, Tryz.ntmps187
    go_upto_region 1 with fail
    generalize w.alloc _ = wa at *
    generalize w.heap.size = ga at *
    have d := h2.cell
    go_wp2_with fail
    refine (e_anew e x ⟨#[75]⟩ ok (by omega) w0 _ _ h2.f2).mono ?_
    rintro r w9 ⟨rfl, h9⟩
    go_wp2
    first
      | (go_end0; exact ⟨rfl, h9.f2.drop⟩)
      | (refine bodyPost_ret (v := .tuple #[]) (by simp [results, go_sem]) rfl ?_; exact ⟨rfl, h9.f2.drop⟩)
  rw [if_neg k9]
  have b9 : (k == 9) = false := by simpa using k9
  by_cases k0 : k = 0
  · subst k0
    rw [if_pos rfl]
    go_enter Tryz.func187, Tryz.ntmps187
    go_upto_region 1 with fail
    generalize w.alloc _ = wa at *
    generalize w.heap.size = ga at *
    have d := h2.cell
    go_wp2_with fail
    refine (e_info e x ⟨a1, a2, a3, 0, pf, a6, a7, a8⟩ ok (by omega) w0 _ _ h2.f2).mono ?_
    rintro r w9 ⟨rfl, h9⟩
    go_wp2
    first
      | (go_end0; exact ⟨rfl, h9.f2.drop⟩)
      | (refine bodyPost_ret (v := .tuple #[]) (by simp [results, go_sem]) rfl ?_; exact ⟨rfl, h9.f2.drop⟩)
  rw [if_neg k0]
  have b0 : (k == 0) = false := by simpa using k0
  go_enter Tryz.func187, Tryz.ntmps187
  go_upto_region 1 with fail
  generalize w.alloc _ = wa at *
  generalize w.heap.size = ga at *
  have d := h2.cell
  go_wp2_with fail
  refine (e_supervised e x ⟨a1, a2, a3, k, pf, a6, a7, a8⟩ ok hs (by omega) w0 _ _ h2.f2).mono ?_
  rintro r w9 ⟨rfl, h9⟩
  go_wp2
  first
    | (go_end0; exact ⟨rfl, h9.f2.drop⟩)
    | (refine bodyPost_ret (v := .tuple #[]) (by simp [results, go_sem]) rfl ?_; exact ⟨rfl, h9.f2.drop⟩)

/-! Frame -/
set_option maxRecDepth 100000 in
set_option maxHeartbeats 1600000 in
theorem e_frame (e : Nat) (x : En) (y : Fr) (ok : x.fl.Ok) (hs : 0 ≤ x.tei → 4 ≤ x.state ∧ x.state ≤ 8) (hl : x.out.length ≤ 95000) (w0 w : World) (R : HP) (hN : NamesAt w) (h : St w0 w (EnAt e x * R)) :
    Calls Tryz.prog 112 #[ptr e, .agg y.cells.toArray] w fun r w' => ∃ v, r = .returned v ∧ St w0 w' (LAt TFx 11 Fx.cells v (x.frame y).2 * (EnAt e (x.frame y).1 * R)) := by
  obtain ⟨a1, a2, cmd, k, pf, a6, a7, inf⟩ := y
  have h2 := h.alloc (.cells (Fr.cells ⟨a1, a2, cmd, k, pf, a6, a7, inf⟩).toArray TFr)
  have hN2 : NamesAt (w.alloc (.cells (Fr.cells ⟨a1, a2, cmd, k, pf, a6, a7, inf⟩).toArray TFr)) := hN.old ((Below.refl w.heap.size w).alloc (Nat.le_refl _) _) hN.pos
  clear h hN
  unfold En.frame
  simp only []
  by_cases ht : x.tei < 0
  · rw [if_pos (.inl ht)]
    have bt : decide (x.tei < 0) = true := by simpa using ht
    go_enter Tryz.func112, Tryz.ntmps112
    go_upto_region 1 with fail
    generalize w.alloc _ = wa at *
    generalize w.heap.size = ga at *
    have c2 := h2.f2.e_c2
    go_wp2
    go_ret
    exact ⟨_, rfl, h2.drop.l_nil _ _ _⟩
  have bt : decide (x.tei < 0) = false := by simpa using ht
  have hs' := hs (by omega)
  have hmay := k_may k cmd
  cases hm : mayK k cmd with
  | false =>
    rw [if_pos (.inr (.inl rfl))]
    rw [hm] at hmay
    go_enter Tryz.func112, Tryz.ntmps112
    go_upto_region 1 with fail
    generalize w.alloc _ = wa at *
    generalize w.heap.size = ga at *
    have c2 := h2.f2.e_c2
    have d := h2.cell
    go_wp2_with fail
    refine (hmay wa).mono ?_
    rintro r w1 ⟨rfl, rfl⟩
    go_wp2
    go_ret
    exact ⟨_, rfl, h2.drop.l_nil _ _ _⟩
  | true =>
    rw [hm] at hmay
    have hcar := k_carries k (inf.size : Int) _ hN2
    cases hc : carries k (inf.size : Int) with
    | false =>
      rw [if_pos (.inr (.inr rfl))]
      rw [hc] at hcar
      go_enter Tryz.func112, Tryz.ntmps112
      go_upto_region 1 with fail
      generalize w.alloc _ = wa at *
      generalize w.heap.size = ga at *
      have c2 := h2.f2.e_c2
      have d := h2.cell
      go_wp2_with fail
      refine (hmay wa).mono ?_
      rintro r w1 ⟨rfl, rfl⟩
      go_wp2_with fail
      refine hcar.mono ?_
      rintro r w2 ⟨rfl, rfl⟩
      go_wp2
      go_ret
      exact ⟨_, rfl, h2.drop.l_nil _ _ _⟩
    | true =>
      rw [if_neg (by simp; omega)]
      rw [hc] at hcar
      clear hm hc
      by_cases k6 : k = 6
      · subst k6
        rw [if_pos rfl]
        go_enter Tryz.func112, Tryz.ntmps112
        go_upto_region 1 with fail
        generalize w.alloc _ = wa at *
        generalize w.heap.size = ga at *
        have c2 := h2.f2.e_c2
        have c1 := h2.f2.e_c1
        have d := h2.cell
        go_wp2_with fail
        refine (hmay wa).mono ?_
        rintro r w1 ⟨rfl, rfl⟩
        go_wp2_with fail
        refine hcar.mono ?_
        rintro r w2 ⟨rfl, rfl⟩
        go_wp2_with fail
        refine (e_told e x 6 inf (by omega) w0 _ _ h2.f2).mono ?_
        rintro r w3 ⟨rfl, h3⟩
        go_wp2_with fail
        refine (e_done e _ w0 _ _ h3).mono ?_
        rintro r w4 ⟨v, rfl, h4⟩
        clear d c1 c2 h2
        go_wp2
        go_ret
        exact ⟨v, rfl, h4.f3.drop⟩
      rw [if_neg k6]
      have b6 : (k == 6) = false := by simpa using k6
      by_cases s4 : x.state = 4
      · rw [if_pos s4]
        go_enter Tryz.func112, Tryz.ntmps112
        go_upto_region 1 with fail
        generalize w.alloc _ = wa at *
        generalize w.heap.size = ga at *
        have c2 := h2.f2.e_c2
        have c1 := h2.f2.e_c1
        rw [s4] at c1
        have d := h2.cell
        go_wp2_with fail
        refine (hmay wa).mono ?_
        rintro r w1 ⟨rfl, rfl⟩
        go_wp2_with fail
        refine hcar.mono ?_
        rintro r w2 ⟨rfl, rfl⟩
        clear s4
        go_wp2_with fail
        refine (e_inAssigned e x ⟨a1, a2, cmd, k, pf, a6, a7, inf⟩ ok (by omega) w0 _ _ h2.f2).mono ?_
        rintro r w3 ⟨rfl, h3⟩
        go_wp2_with fail
        refine (e_done e _ w0 _ _ h3).mono ?_
        rintro r w4 ⟨v, rfl, h4⟩
        clear d c1 c2 h2
        go_wp2
        go_ret
        exact ⟨v, rfl, h4.f3.drop⟩
      rw [if_neg s4]
      by_cases s5 : x.state = 5
      · rw [if_pos s5]
        go_enter Tryz.func112, Tryz.ntmps112
        go_upto_region 1 with fail
        generalize w.alloc _ = wa at *
        generalize w.heap.size = ga at *
        have c2 := h2.f2.e_c2
        have c1 := h2.f2.e_c1
        rw [s5] at c1
        have d := h2.cell
        go_wp2_with fail
        refine (hmay wa).mono ?_
        rintro r w1 ⟨rfl, rfl⟩
        go_wp2_with fail
        refine hcar.mono ?_
        rintro r w2 ⟨rfl, rfl⟩
        clear s5
        go_wp2_with fail
        refine (e_inConnecting e x ⟨a1, a2, cmd, k, pf, a6, a7, inf⟩ ok (by omega) w0 _ _ h2.f2).mono ?_
        rintro r w3 ⟨rfl, h3⟩
        go_wp2_with fail
        refine (e_done e _ w0 _ _ h3).mono ?_
        rintro r w4 ⟨v, rfl, h4⟩
        clear d c1 c2 h2
        go_wp2
        go_ret
        exact ⟨v, rfl, h4.f3.drop⟩
      rw [if_neg s5]
      by_cases s6 : x.state = 6
      · rw [if_pos s6]
        go_enter Tryz.func112, Tryz.ntmps112
        go_upto_region 1 with fail
        generalize w.alloc _ = wa at *
        generalize w.heap.size = ga at *
        have c2 := h2.f2.e_c2
        have c1 := h2.f2.e_c1
        rw [s6] at c1
        have d := h2.cell
        go_wp2_with fail
        refine (hmay wa).mono ?_
        rintro r w1 ⟨rfl, rfl⟩
        go_wp2_with fail
        refine hcar.mono ?_
        rintro r w2 ⟨rfl, rfl⟩
        clear s6
        go_wp2_with fail
        refine (e_inReleasing e x ⟨a1, a2, cmd, k, pf, a6, a7, inf⟩ ok (by omega) w0 _ _ h2.f2).mono ?_
        rintro r w3 ⟨rfl, h3⟩
        go_wp2_with fail
        refine (e_done e _ w0 _ _ h3).mono ?_
        rintro r w4 ⟨v, rfl, h4⟩
        clear d c1 c2 h2
        go_wp2
        go_ret
        exact ⟨v, rfl, h4.f3.drop⟩
      rw [if_neg s6]
      have n4 : (x.state == 4) = false := by simpa using s4
      have n5 : (x.state == 5) = false := by simpa using s5
      have n6 : (x.state == 6) = false := by simpa using s6
      go_enter Tryz.func112, Tryz.ntmps112
      go_upto_region 1 with fail
      generalize w.alloc _ = wa at *
      generalize w.heap.size = ga at *
      have c2 := h2.f2.e_c2
      have c1 := h2.f2.e_c1
      have d := h2.cell
      go_wp2_with fail
      refine (hmay wa).mono ?_
      rintro r w1 ⟨rfl, rfl⟩
      go_wp2_with fail
      refine hcar.mono ?_
      rintro r w2 ⟨rfl, rfl⟩
      go_wp2_with fail
      refine (e_inOpen e x ⟨a1, a2, cmd, k, pf, a6, a7, inf⟩ ok (by omega) (by omega) w0 _ _ h2.f2).mono ?_
      rintro r w3 ⟨rfl, h3⟩
      go_wp2_with fail
      refine (e_done e _ w0 _ _ h3).mono ?_
      rintro r w4 ⟨v, rfl, h4⟩
      clear d c1 c2 h2
      go_wp2
      go_ret
      exact ⟨v, rfl, h4.f3.drop⟩
end Go.Proofs.YtnnahljdhdippaaGreatDoor

namespace Go.Proofs.YtnnahljdhdippaaGreatDoor
open Go.RowKit

set_option maxRecDepth 100000 in
set_option maxHeartbeats 1600000 in
theorem e_timeout (e : Nat) (x : En) (t : Int) (ok : x.fl.Ok) (ht0 : t = 200 ∨ t = 203 ∨ x.runs t = false) (hk : kInt.ok t) (htr : 0 ≤ x.tries ∧ x.tries ≤ 1000) (hl : x.out.length ≤ 95000) (w0 w : World) (R : HP) (h : St w0 w (EnAt e x * R)) :
    Calls Tryz.prog 66 #[ptr e, .int .i64 t] w fun r w' => ∃ v, r = .returned v ∧ St w0 w' (LAt TFx 11 Fx.cells v (x.timeout t).2 * (EnAt e (x.timeout t).1 * R)) := by
  obtain ⟨rm, fp, uv, ov, rl, hr, h1⟩ := h.e_open
  have c := h1.cell
  have f := h1.free
  have hb := h1.f3.bm t hk
  rw [hr t] at hb
  unfold En.timeout
  cases hx : x.runs t with
  | false =>
    rw [hx] at hb
    rw [if_pos rfl]
    clear hx
    go_enter Tryz.func66, Tryz.ntmps66
    go_wp2
    go_ret
    exact ⟨_, rfl, h.l_nil _ _ _⟩
  | true =>
    have ht : t = 200 ∨ t = 203 := by
      rcases ht0 with h' | h' | h'
      · exact .inl h'
      · exact .inr h'
      · rw [hx] at h'; cases h'
    rw [hx] at hb
    rw [if_neg (by simp)]
    clear hx ht0
    simp only []
    by_cases s5 : x.state = 5
    · rw [if_pos s5]
      go_enter Tryz.func66, Tryz.ntmps66
      go_upto_region 4 with (at_mapUpdate; refine wp_mput rfl (.tmp 19) (.tmp 20) (.const (Value.bool false)) 200 rfl tyBM h1.f3 rfl t rfl hk false rfl ?_; intro w5 h4)
      have h5 : St w0 w5 (EnAt e (x.setT t false) * R) := h4.b3.e_shut (x.setT_cells t false rm fp uv ov).symm (x.setT_out t false).symm (fun u => by rw [bOf_put, x.setT_runs ht, hr]) (x.setT_fl t false).symm (by rw [x.setT_units]) (by rw [x.setT_units])
      clear h4 h1 h c f hb
      have ok0 : (x.setT t false).fl.Ok := by rw [En.setT_fl]; exact ok
      have lo0 : (x.setT t false).out.length ≤ 95000 := by rw [En.setT_out]; exact hl
      have st0 : (x.setT t false).state = x.state := x.setT_state t false
      have tr0 : (x.setT t false).tries = x.tries := x.setT_tries t false
      have mo0 : (x.setT t false).most = x.most := x.setT_most t false
      generalize hx0 : x.setT t false = x0 at *
      have HX := Lib.hid hx0
      clear hx0
      have c1 := h5.e_c1
      rw [st0, s5] at c1
      clear s5 st0
      go_wp2_with fail
      refine (e_again e x0 4 ⟨#[71]⟩ 3 ok0 (by rw [tr0]; exact htr) (by omega) w0 _ R h5).mono ?_
      rintro r w6 ⟨rfl, h6⟩
      clear c1 h5
      go_wp2_with fail
      refine (e_done e _ w0 _ _ h6).mono ?_
      rintro r w7 ⟨v, rfl, h7⟩
      go_wp2
      go_ret
      exact ⟨v, rfl, by rw [HX.out]; exact h7⟩
    rw [if_neg s5]
    by_cases s6 : x.state = 6
    · rw [if_pos s6]
      go_enter Tryz.func66, Tryz.ntmps66
      go_upto_region 4 with (at_mapUpdate; refine wp_mput rfl (.tmp 19) (.tmp 20) (.const (Value.bool false)) 200 rfl tyBM h1.f3 rfl t rfl hk false rfl ?_; intro w5 h4)
      have h5 : St w0 w5 (EnAt e (x.setT t false) * R) := h4.b3.e_shut (x.setT_cells t false rm fp uv ov).symm (x.setT_out t false).symm (fun u => by rw [bOf_put, x.setT_runs ht, hr]) (x.setT_fl t false).symm (by rw [x.setT_units]) (by rw [x.setT_units])
      clear h4 h1 h c f hb
      have ok0 : (x.setT t false).fl.Ok := by rw [En.setT_fl]; exact ok
      have lo0 : (x.setT t false).out.length ≤ 95000 := by rw [En.setT_out]; exact hl
      have st0 : (x.setT t false).state = x.state := x.setT_state t false
      have tr0 : (x.setT t false).tries = x.tries := x.setT_tries t false
      have mo0 : (x.setT t false).most = x.most := x.setT_most t false
      generalize hx0 : x.setT t false = x0 at *
      have HX := Lib.hid hx0
      clear hx0
      have c1 := h5.e_c1
      rw [st0, s6] at c1
      clear s6 st0
      go_wp2_with fail
      refine (e_again e x0 7 ⟨#[72]⟩ 4 ok0 (by rw [tr0]; exact htr) (by omega) w0 _ R h5).mono ?_
      rintro r w6 ⟨rfl, h6⟩
      clear c1 h5
      go_wp2_with fail
      refine (e_done e _ w0 _ _ h6).mono ?_
      rintro r w7 ⟨v, rfl, h7⟩
      go_wp2
      go_ret
      exact ⟨v, rfl, by rw [HX.out]; exact h7⟩
    rw [if_neg s6]
    by_cases s7 : x.state = 7
    · rw [if_pos s7]
      go_enter Tryz.func66, Tryz.ntmps66
      go_upto_region 4 with (at_mapUpdate; refine wp_mput rfl (.tmp 19) (.tmp 20) (.const (Value.bool false)) 200 rfl tyBM h1.f3 rfl t rfl hk false rfl ?_; intro w5 h4)
      have h5 : St w0 w5 (EnAt e (x.setT t false) * R) := h4.b3.e_shut (x.setT_cells t false rm fp uv ov).symm (x.setT_out t false).symm (fun u => by rw [bOf_put, x.setT_runs ht, hr]) (x.setT_fl t false).symm (by rw [x.setT_units]) (by rw [x.setT_units])
      clear h4 h1 h c f hb
      have ok0 : (x.setT t false).fl.Ok := by rw [En.setT_fl]; exact ok
      have lo0 : (x.setT t false).out.length ≤ 95000 := by rw [En.setT_out]; exact hl
      have st0 : (x.setT t false).state = x.state := x.setT_state t false
      have tr0 : (x.setT t false).tries = x.tries := x.setT_tries t false
      have mo0 : (x.setT t false).most = x.most := x.setT_most t false
      generalize hx0 : x.setT t false = x0 at *
      have HX := Lib.hid hx0
      clear hx0
      have c1 := h5.e_c1
      rw [st0, s7] at c1
      clear s7 st0
      have f5 := h5.e_fr
      have c3 := h5.e_c3
      have h8 := h5.e_set_tries 0
      go_wp2_with fail
      refine (e_inquire e (x0.setTries 0) ok0 (show x0.out.length ≤ 99990 by omega) w0 _ R h8).mono ?_
      rintro r w6 ⟨rfl, h9⟩
      clear c1 h5 f5 c3 h8
      have f9 := h9.e_fr
      have c9 := h9.e_c1
      have h6 := h9.e_set_state 8
      go_wp2_with fail
      refine (e_done e _ w0 _ _ h6).mono ?_
      rintro r w7 ⟨v, rfl, h7⟩
      go_wp2
      go_ret
      exact ⟨v, rfl, by rw [HX.out]; exact h7⟩
    rw [if_neg s7]
    by_cases s8 : x.state = 8
    · rw [if_pos s8]
      by_cases hm : x.tries = x.most
      · rw [if_pos hm]
        go_enter Tryz.func66, Tryz.ntmps66
        go_upto_region 4 with (at_mapUpdate; refine wp_mput rfl (.tmp 19) (.tmp 20) (.const (Value.bool false)) 200 rfl tyBM h1.f3 rfl t rfl hk false rfl ?_; intro w5 h4)
        have h5 : St w0 w5 (EnAt e (x.setT t false) * R) := h4.b3.e_shut (x.setT_cells t false rm fp uv ov).symm (x.setT_out t false).symm (fun u => by rw [bOf_put, x.setT_runs ht, hr]) (x.setT_fl t false).symm (by rw [x.setT_units]) (by rw [x.setT_units])
        clear h4 h1 h c f hb
        have ok0 : (x.setT t false).fl.Ok := by rw [En.setT_fl]; exact ok
        have lo0 : (x.setT t false).out.length ≤ 95000 := by rw [En.setT_out]; exact hl
        have st0 : (x.setT t false).state = x.state := x.setT_state t false
        have tr0 : (x.setT t false).tries = x.tries := x.setT_tries t false
        have mo0 : (x.setT t false).most = x.most := x.setT_most t false
        generalize hx0 : x.setT t false = x0 at *
        have HX := Lib.hid hx0
        clear hx0
        have c1 := h5.e_c1
        rw [st0, s8] at c1
        clear s8 st0
        have c3 := h5.e_c3
        have c0 := h5.e_c0
        have b : (x0.tries == x0.most) = true := by rw [tr0, mo0]; simpa using hm
        clear hm tr0 mo0 htr
        have H5 := Lib.hid h5
        clear h5
        go_upto_region 14 with fail
        go_quiet (fail)
        go_wp2_with fail
        refine (e_anew e x0 ⟨#[73]⟩ ok0 (by omega) w0 _ R (H5.out.drewN _)).mono ?_
        rintro r w6 ⟨rfl, h6⟩
        clear c1 H5 c3 c0 b
        go_wp2_with fail
        refine (e_done e _ w0 _ _ h6).mono ?_
        rintro r w7 ⟨v, rfl, h7⟩
        go_wp2
        go_ret
        exact ⟨v, rfl, by rw [HX.out]; exact h7⟩
      · rw [if_neg hm]
        go_enter Tryz.func66, Tryz.ntmps66
        go_upto_region 4 with (at_mapUpdate; refine wp_mput rfl (.tmp 19) (.tmp 20) (.const (Value.bool false)) 200 rfl tyBM h1.f3 rfl t rfl hk false rfl ?_; intro w5 h4)
        have h5 : St w0 w5 (EnAt e (x.setT t false) * R) := h4.b3.e_shut (x.setT_cells t false rm fp uv ov).symm (x.setT_out t false).symm (fun u => by rw [bOf_put, x.setT_runs ht, hr]) (x.setT_fl t false).symm (by rw [x.setT_units]) (by rw [x.setT_units])
        clear h4 h1 h c f hb
        have ok0 : (x.setT t false).fl.Ok := by rw [En.setT_fl]; exact ok
        have lo0 : (x.setT t false).out.length ≤ 95000 := by rw [En.setT_out]; exact hl
        have st0 : (x.setT t false).state = x.state := x.setT_state t false
        have tr0 : (x.setT t false).tries = x.tries := x.setT_tries t false
        have mo0 : (x.setT t false).most = x.most := x.setT_most t false
        generalize hx0 : x.setT t false = x0 at *
        have HX := Lib.hid hx0
        clear hx0
        have c1 := h5.e_c1
        rw [st0, s8] at c1
        clear s8 st0
        have c3 := h5.e_c3
        rw [tr0] at c3
        have c0 := h5.e_c0
        rw [mo0] at c0
        have b : (x.tries == x.most) = false := by simpa using hm
        have f5 := h5.e_fr
        have hw : IntKind.i64.wrap (x.tries + 1) = x.tries + 1 := by rw [IntKind.wrap_i64]; omega
        clear hm tr0 mo0 htr
        have H5 := Lib.hid h5
        clear h5
        go_upto_region 14 with fail
        go_quiet (fail)
        go_wp2_with fail
        refine (e_inquire e (x0.setTries (x.tries + 1)) ok0 (show x0.out.length ≤ 99990 by omega) w0 _ R ((H5.out.drewN _).e_set_tries (x.tries + 1))).mono ?_
        rintro r w6 ⟨rfl, h6⟩
        clear c1 H5 c3 c0 b f5
        go_wp2_with fail
        refine (e_done e _ w0 _ _ h6).mono ?_
        rintro r w7 ⟨v, rfl, h7⟩
        go_wp2
        go_ret
        exact ⟨v, rfl, by rw [HX.out]; exact h7⟩
    rw [if_neg s8]
    have n5 : (x.state == 5) = false := by simpa using s5
    have n6 : (x.state == 6) = false := by simpa using s6
    have n7 : (x.state == 7) = false := by simpa using s7
    have n8 : (x.state == 8) = false := by simpa using s8
    go_enter Tryz.func66, Tryz.ntmps66
    go_upto_region 4 with (at_mapUpdate; refine wp_mput rfl (.tmp 19) (.tmp 20) (.const (Value.bool false)) 200 rfl tyBM h1.f3 rfl t rfl hk false rfl ?_; intro w5 h4)
    have h5 : St w0 w5 (EnAt e (x.setT t false) * R) := h4.b3.e_shut (x.setT_cells t false rm fp uv ov).symm (x.setT_out t false).symm (fun u => by rw [bOf_put, x.setT_runs ht, hr]) (x.setT_fl t false).symm (by rw [x.setT_units]) (by rw [x.setT_units])
    clear h4 h1 h c f hb
    have ok0 : (x.setT t false).fl.Ok := by rw [En.setT_fl]; exact ok
    have lo0 : (x.setT t false).out.length ≤ 95000 := by rw [En.setT_out]; exact hl
    have st0 : (x.setT t false).state = x.state := x.setT_state t false
    have tr0 : (x.setT t false).tries = x.tries := x.setT_tries t false
    have mo0 : (x.setT t false).most = x.most := x.setT_most t false
    generalize hx0 : x.setT t false = x0 at *
    have HX := Lib.hid hx0
    clear hx0
    have c1 := h5.e_c1
    rw [st0] at c1
    clear st0 tr0 mo0
    have h6 := h5
    go_wp2_with fail
    refine (e_done e _ w0 _ _ h6).mono ?_
    rintro r w7 ⟨v, rfl, h7⟩
    go_wp2
    go_ret
    exact ⟨v, rfl, by rw [HX.out]; exact h7⟩

/-! Assign -/
theorem unit_len (x : En) (s : ByteArray) : (x.unit s).1.out.length ≤ x.out.length + 1 := by
  unfold En.unit
  split
  · exact Nat.le_of_eq (x.sendD_len 6 true false 0 s)
  · split
    · simp
    · split
      · exact Nat.le_of_eq (En.told_len ((x.setUnits (x.units ++ [s])).setState 2) 8 noStr)
      · exact Nat.le_succ _
theorem unit_fl (x : En) (s : ByteArray) : (x.unit s).1.fl = x.fl := by
  unfold En.unit
  split
  · rfl
  · split
    · rfl
    · split <;> rfl
def En.unitsK (x : En) (l : List ByteArray) : En := l.foldl (fun y s => (y.unit s).1) x
theorem unitsK_len (l : List ByteArray) : ∀ x : En, (x.unitsK l).out.length ≤ x.out.length + l.length := by
  induction l with
  | nil => intro x; exact Nat.le_refl _
  | cons s l ih =>
    intro x
    have h1 := ih (x.unit s).1
    have h2 := unit_len x s
    show ((x.unit s).1.unitsK l).out.length ≤ _
    simp only [List.length_cons]
    omega
theorem unitsK_fl (l : List ByteArray) : ∀ x : En, (x.unitsK l).fl = x.fl := by
  induction l with
  | nil => intro x; rfl
  | cons s l ih => intro x; exact (ih (x.unit s).1).trans (unit_fl x s)
theorem unitsK_take (l : List ByteArray) (x : En) (i : Nat) (s : ByteArray) (h : l[i]? = some s) : x.unitsK (l.take (i + 1)) = ((x.unitsK (l.take i)).unit s).1 := by
  unfold En.unitsK
  rw [List.take_add_one, List.foldl_append, h]
  rfl
end Go.Proofs.YtnnahljdhdippaaGreatDoor
