/- The entity: unit. The entity: Ask. -/
import Derived.Test.YtoophfokbioaaaaDoorEntG
namespace Go.Proofs.YtoophfokbioaaaaDoor
open Go.RowKit

abbrev encS (s : ByteArray) : List Value := [.string s]
theorem tyStr : ETy Tryd.prog 22 9 1 16 encS :=
  ⟨Tryd.underlying22, ⟨.string noStr, by kernel_rfl, rfl⟩, fun _ => rfl, fun b u hu => by simp [encS] at hu; subst hu; rfl, by decide, by decide⟩
theorem strs_l (l : List ByteArray) : l.flatMap encS = strs l := by
  induction l with
  | nil => rfl
  | cons a l ih => rw [List.flatMap_cons, ih]; rfl
theorem row_strs (v : Value) (l : List ByteArray) : Row 9 1 v l.length (strs l) = LAt 9 1 encS v l := by unfold LAt; rw [strs_l]

set_option maxRecDepth 100000 in
theorem e_unit (e : Nat) (x : En) (s : ByteArray) (ok : x.fl.Ok) (hl : x.out.length ≤ 99990) (w0 w : World) (R : HP) (h : St w0 w (EnAt e x * R)) :
    Calls Tryd.prog 18 #[ptr e, .string s] w fun r w' => r = .returned (.int .i64 (x.unit s).2) ∧ St w0 w' (EnAt e (x.unit s).1 * R) := by
  have c1 := h.e_c1
  unfold En.unit
  by_cases h4 : 4 ≤ x.state
  · rw [if_pos h4]
    have b : decide (x.state ≥ 4) = true := by simpa using h4
    go_enter Tryd.func18, Tryd.ntmps18
    go_wp2_with fail
    refine (e_sendD e x 6 true false 0 s ok (by omega) w0 _ R h).mono ?_
    rintro r w1 ⟨rfl, h3⟩
    go_wp2
    go_ret
    exact ⟨rfl, h3⟩
  rw [if_neg h4]
  have b4 : decide (x.state ≥ 4) = false := by simpa using h4
  obtain ⟨rm, fp, uv, ov, rl, hr, h1⟩ := h.e_open
  have c := h1.cell
  have f := h1.free
  have sh := h1.f5.row_shape
  obtain ⟨n, hn⟩ : ∃ n, x.units.length = n := ⟨_, rfl⟩
  rw [hn] at sh
  obtain ⟨ua, uc, rfl, _, _⟩ := sh
  by_cases hf : 256 ≤ x.units.length
  · rw [if_pos hf]
    have b6 : decide ((n : Int) ≥ 256) = true := by simp; omega
    clear h1
    go_enter Tryd.func18, Tryd.ntmps18
    go_wp2
    go_ret
    exact ⟨rfl, h⟩
  rw [if_neg hf]
  have b6 : decide ((n : Int) ≥ 256) = false := by simp; omega
  have hA0 := (h1.alloc (.cells #[.string s] 9)).drop
  rw [row_strs] at hA0
  have hA := hA0.eq (show _ = LAt 9 1 encS (.slice ua n uc) x.units * (blk e (.cells (x.cells rm fp (.slice ua n uc) ov) TEn (0, 0)) * (LAt TFx 11 Fx.cells ov x.out * (MAt kInt vBool rm rl * (FAt TF TQ fp x.fl * R)))) by ac_rfl)
  clear hA0 h1 h hn
  by_cases s1 : x.state = 1
  · rw [if_pos s1]
    have b1 : (x.state == 1) = true := by simpa using s1
    go_enter Tryd.func18, Tryd.ntmps18
    go_wp2_with (at_builtin; refine wp_append_elem rfl (.tmp 23) (.tmp 25) rfl tyStr hA s rfl _ rfl (new_cells _ [.string s] _ _ (by simp)) (by omega) ?ha; (case' ha => (intro g off cap w8 h8; have c8 := h8.f2.cell; have f8 := h8.f2.free)))
    have h9 : St w0 _ (EnAt e (x.setUnits (x.units ++ [s])) * R) := ((h8.f2.set 6 (.slice (some ⟨g, off, none⟩) (x.units.length + 1) cap)).eq (show _ = blk e (.cells ((x.cells rm fp (.slice ua n uc) ov).setIfInBounds 6 (.slice (some ⟨g, off, none⟩) (x.units.length + 1) cap)) TEn (0, 0)) * (LAt TFx 11 Fx.cells ov x.out * (MAt kInt vBool rm rl * (FAt TF TQ fp x.fl * (Row 9 1 (.slice (some ⟨g, off, none⟩) (x.units.length + 1) cap) (x.units ++ [s]).length (strs (x.units ++ [s])) * R)))) by rw [row_strs]; ac_rfl)).e_shut (x := x.setUnits (x.units ++ [s])) (rm := rm) (fp := fp) (l := rl) (n := (x.units ++ [s]).length) (us := strs (x.units ++ [s])) (uv := .slice (some ⟨g, off, none⟩) (x.units.length + 1) cap) rfl rfl hr rfl rfl rfl
    have h10 := h9.e_set_state 2
    refine (e_told e ((x.setUnits (x.units ++ [s])).setState 2) 8 noStr (show x.out.length ≤ 100000 by omega) w0 _ R h10).mono ?_
    rintro r w9 ⟨rfl, h11⟩
    clear c8 f8 h8 h9 h10
    go_wp2
    go_ret
    exact ⟨rfl, h11⟩
  · rw [if_neg s1]
    have b1 : (x.state == 1) = false := by simpa using s1
    go_enter Tryd.func18, Tryd.ntmps18
    go_wp2_with (at_builtin; refine wp_append_elem rfl (.tmp 23) (.tmp 25) rfl tyStr hA s rfl _ rfl (new_cells _ [.string s] _ _ (by simp)) (by omega) ?hb; (case' hb => (intro g off cap w8 h8; have c8 := h8.f2.cell; have f8 := h8.f2.free)))
    have h9 : St w0 _ (EnAt e (x.setUnits (x.units ++ [s])) * R) := ((h8.f2.set 6 (.slice (some ⟨g, off, none⟩) (x.units.length + 1) cap)).eq (show _ = blk e (.cells ((x.cells rm fp (.slice ua n uc) ov).setIfInBounds 6 (.slice (some ⟨g, off, none⟩) (x.units.length + 1) cap)) TEn (0, 0)) * (LAt TFx 11 Fx.cells ov x.out * (MAt kInt vBool rm rl * (FAt TF TQ fp x.fl * (Row 9 1 (.slice (some ⟨g, off, none⟩) (x.units.length + 1) cap) (x.units ++ [s]).length (strs (x.units ++ [s])) * R)))) by rw [row_strs]; ac_rfl)).e_shut (x := x.setUnits (x.units ++ [s])) (rm := rm) (fp := fp) (l := rl) (n := (x.units ++ [s]).length) (us := strs (x.units ++ [s])) (uv := .slice (some ⟨g, off, none⟩) (x.units.length + 1) cap) rfl rfl hr rfl rfl rfl
    go_ret
    exact ⟨rfl, h9⟩
end Go.Proofs.YtoophfokbioaaaaDoor

namespace Go.Proofs.YtoophfokbioaaaaDoor
open Go.RowKit

set_option maxRecDepth 100000 in
set_option maxHeartbeats 1600000 in
theorem e_ask (e : Nat) (x : En) (a : Int) (d : ByteArray) (ok : x.fl.Ok) (hl : x.out.length ≤ 98990) (_ho : x.out = []) (w0 w : World) (R : HP) (h : St w0 w (EnAt e x * R)) :
    Calls Tryd.prog 6 #[ptr e, .int .i64 a, .string d] w fun r w' => ∃ v, r = .returned (.tuple #[v, .int .i64 (x.ask a d).2.2]) ∧ St w0 w' (LAt TFx 11 Fx.cells v (x.ask a d).2.1 * (EnAt e (x.ask a d).1 * R)) := by
  unfold En.ask
  by_cases ha : a < 0 ∨ 5 < a
  · rw [if_pos ha]
    by_cases h0 : a < 0
    · have b0 : decide (a < 0) = true := by simpa using h0
      go_enter Tryd.func6, Tryd.ntmps6
      go_wp2
      go_ret2
      exact ⟨_, rfl, h.l_nil _ _ _⟩
    · have b0 : decide (a < 0) = false := by simpa using h0
      have b5 : decide (a > 5) = true := by simp; omega
      go_enter Tryd.func6, Tryd.ntmps6
      go_wp2
      go_ret2
      exact ⟨_, rfl, h.l_nil _ _ _⟩
  rw [if_neg ha]
  have b0 : decide (a < 0) = false := by simp; omega
  have b5 : decide (a > 5) = false := by simp; omega
  by_cases hL : (a = 2 ∨ a = 3) ∧ 260 < d.size
  · rw [if_pos hL]
    obtain ⟨h23, hd⟩ := hL
    have bd : decide ((d.size : Int) > 260) = true := by simp; omega
    rcases h23 with rfl | rfl
    all_goals
      clear b0 b5
      go_enter Tryd.func6, Tryd.ntmps6
      go_wp2
      go_ret2
      exact ⟨_, rfl, h.l_nil _ _ _⟩
  rw [if_neg hL]
  have bd : (a = 2 ∨ a = 3) → decide ((d.size : Int) > 260) = false := fun h23 => by
    have : ¬ 260 < d.size := fun h' => hL ⟨h23, h'⟩
    simp
    omega
  have h6 : a = 0 ∨ a = 1 ∨ a = 2 ∨ a = 3 ∨ a = 4 ∨ a = 5 := by omega
  rcases h6 with rfl | rfl | rfl | rfl | rfl | rfl
  · clear b0 b5 bd
    go_enter Tryd.func6, Tryd.ntmps6
    go_wp2_with fail
    refine (e_establish e x ok (by omega) w0 _ R h).mono ?_
    rintro r w1 ⟨rfl, h3⟩
    go_wp2_with fail
    refine (e_done e _ w0 _ R h3).mono ?_
    rintro r w2 ⟨v, rfl, h4⟩
    go_wp2
    go_ret2
    exact ⟨v, rfl, h4⟩
  · clear b0 b5 bd
    go_enter Tryd.func6, Tryd.ntmps6
    go_wp2_with fail
    refine (e_release e x ok (by omega) w0 _ R h).mono ?_
    rintro r w1 ⟨rfl, h3⟩
    go_wp2_with fail
    refine (e_done e _ w0 _ R h3).mono ?_
    rintro r w2 ⟨v, rfl, h4⟩
    go_wp2
    go_ret2
    exact ⟨v, rfl, h4⟩
  · have bd := bd (.inl rfl)
    clear b0 b5
    go_enter Tryd.func6, Tryd.ntmps6
    go_wp2_with fail
    refine (e_data e x d ok (by omega) w0 _ R h).mono ?_
    rintro r w1 ⟨rfl, h3⟩
    go_wp2_with fail
    refine (e_done e _ w0 _ R h3).mono ?_
    rintro r w2 ⟨v, rfl, h4⟩
    go_wp2
    go_ret2
    exact ⟨v, rfl, h4⟩
  · have bd := bd (.inr rfl)
    clear b0 b5
    go_enter Tryd.func6, Tryd.ntmps6
    go_wp2_with fail
    refine (e_unit e x d ok (by omega) w0 _ R h).mono ?_
    rintro r w1 ⟨rfl, h3⟩
    go_wp2_with fail
    refine (e_done e _ w0 _ R h3).mono ?_
    rintro r w2 ⟨v, rfl, h4⟩
    go_wp2
    go_ret2
    exact ⟨v, rfl, h4⟩
  · clear b0 b5 bd
    go_enter Tryd.func6, Tryd.ntmps6
    go_wp2_with fail
    refine (e_own e x true ok (by omega) w0 _ R h).mono ?_
    rintro r w1 ⟨rfl, h3⟩
    go_wp2_with fail
    refine (e_done e _ w0 _ R h3).mono ?_
    rintro r w2 ⟨v, rfl, h4⟩
    go_wp2
    go_ret2
    exact ⟨v, rfl, h4⟩
  · clear b0 b5 bd
    go_enter Tryd.func6, Tryd.ntmps6
    go_wp2_with fail
    refine (e_own e x false ok (by omega) w0 _ R h).mono ?_
    rintro r w1 ⟨rfl, h3⟩
    go_wp2_with fail
    refine (e_done e _ w0 _ R h3).mono ?_
    rintro r w2 ⟨v, rfl, h4⟩
    go_wp2
    go_ret2
    exact ⟨v, rfl, h4⟩
end Go.Proofs.YtoophfokbioaaaaDoor
