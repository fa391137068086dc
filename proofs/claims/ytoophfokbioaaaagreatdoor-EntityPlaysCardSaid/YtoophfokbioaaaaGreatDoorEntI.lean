/- The entity: Ask. -/
import Derived.Test.YtoophfokbioaaaaGreatDoorEntH
namespace Go.Proofs.YtoophfokbioaaaaGreatDoor
open Go.RowKit

set_option maxRecDepth 100000 in
set_option maxHeartbeats 1600000 in
theorem e_ask (e : Nat) (x : En) (a : Int) (d : ByteArray) (ok : x.fl.Ok) (hl : x.out.length ≤ 98990) (ho : x.out = []) (w0 w : World) (R : HP) (h : St w0 w (EnAt e x * R)) :
    Calls Tryz.prog 17 #[ptr e, .int .i64 a, .string d] w fun r w' => ∃ v, r = .returned (.tuple #[v, .int .i64 (x.ask a d).2.2]) ∧ St w0 w' (LAt TFx 11 Fx.cells v (x.ask a d).2.1 * (EnAt e (x.ask a d).1 * R)) := by
  unfold En.ask
  by_cases ha : a < 0 ∨ 5 < a
  · rw [if_pos ha]
    by_cases h0 : a < 0
    · have b0 : decide (a < 0) = true := by simpa using h0
      go_enter Tryz.func17, Tryz.ntmps17
      go_wp2
      go_ret2
      exact ⟨_, rfl, h.l_nil _ _ _⟩
    · have b0 : decide (a < 0) = false := by simpa using h0
      have b5 : decide (a > 5) = true := by simp; omega
      go_enter Tryz.func17, Tryz.ntmps17
      go_wp2
      go_ret2
      exact ⟨_, rfl, h.l_nil _ _ _⟩
  rw [if_neg ha]
  have b0 : decide (a < 0) = false := by simp; omega
  have b5 : decide (a > 5) = false := by simp; omega
  by_cases hL : (a = 2 ∨ a = 3) ∧ 260 < d.size
  · rw [if_pos hL]
    obtain ⟨h23, hd⟩ := hL
    have bd : decide ((d.size : Int) > 260) = true := by simp; omega
    rcases h23 with rfl | rfl
    all_goals
      clear b0 b5
      go_enter Tryz.func17, Tryz.ntmps17
      go_wp2
      go_ret2
      exact ⟨_, rfl, h.l_nil _ _ _⟩
  rw [if_neg hL]
  have bd : (a = 2 ∨ a = 3) → decide ((d.size : Int) > 260) = false := fun h23 => by
    have : ¬ 260 < d.size := fun h' => hL ⟨h23, h'⟩
    simp
    omega
  have h6 : a = 0 ∨ a = 1 ∨ a = 2 ∨ a = 3 ∨ a = 4 ∨ a = 5 := by omega
  rcases h6 with rfl | rfl | rfl | rfl | rfl | rfl
  · clear b0 b5 bd
    go_enter Tryz.func17, Tryz.ntmps17
    go_wp2_with fail
    refine (e_establish e x ok (by omega) w0 _ R h).mono ?_
    rintro r w1 ⟨rfl, h3⟩
    go_wp2_with fail
    refine (e_done e _ w0 _ R h3).mono ?_
    rintro r w2 ⟨v, rfl, h4⟩
    go_wp2
    go_ret2
    exact ⟨v, rfl, h4⟩
  · clear b0 b5 bd
    go_enter Tryz.func17, Tryz.ntmps17
    go_wp2_with fail
    refine (e_release e x ok (by omega) w0 _ R h).mono ?_
    rintro r w1 ⟨rfl, h3⟩
    go_wp2_with fail
    refine (e_done e _ w0 _ R h3).mono ?_
    rintro r w2 ⟨v, rfl, h4⟩
    go_wp2
    go_ret2
    exact ⟨v, rfl, h4⟩
  · have bd := bd (.inl rfl)
    clear b0 b5
    go_enter Tryz.func17, Tryz.ntmps17
    go_wp2_with fail
    refine (e_data e x d ok (by omega) w0 _ R h).mono ?_
    rintro r w1 ⟨rfl, h3⟩
    go_wp2_with fail
    refine (e_done e _ w0 _ R h3).mono ?_
    rintro r w2 ⟨v, rfl, h4⟩
    go_wp2
    go_ret2
    exact ⟨v, rfl, h4⟩
  · have bd := bd (.inr rfl)
    clear b0 b5
    go_enter Tryz.func17, Tryz.ntmps17
    go_wp2_with fail
    refine (e_unit e x d ok (by omega) w0 _ R h).mono ?_
    rintro r w1 ⟨rfl, h3⟩
    go_wp2_with fail
    refine (e_done e _ w0 _ R h3).mono ?_
    rintro r w2 ⟨v, rfl, h4⟩
    go_wp2
    go_ret2
    exact ⟨v, rfl, h4⟩
  · clear b0 b5 bd
    go_enter Tryz.func17, Tryz.ntmps17
    go_wp2_with fail
    refine (e_own e x true ok (by omega) w0 _ R h).mono ?_
    rintro r w1 ⟨rfl, h3⟩
    go_wp2_with fail
    refine (e_done e _ w0 _ R h3).mono ?_
    rintro r w2 ⟨v, rfl, h4⟩
    go_wp2
    go_ret2
    exact ⟨v, rfl, h4⟩
  · clear b0 b5 bd
    go_enter Tryz.func17, Tryz.ntmps17
    go_wp2_with fail
    refine (e_own e x false ok (by omega) w0 _ R h).mono ?_
    rintro r w1 ⟨rfl, h3⟩
    go_wp2_with fail
    refine (e_done e _ w0 _ R h3).mono ?_
    rintro r w2 ⟨v, rfl, h4⟩
    go_wp2
    go_ret2
    exact ⟨v, rfl, h4⟩
end Go.Proofs.YtoophfokbioaaaaGreatDoor
