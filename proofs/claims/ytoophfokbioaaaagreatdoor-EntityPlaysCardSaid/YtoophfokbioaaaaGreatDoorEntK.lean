/- The entity: Remove. -/
import Derived.Test.YtoophfokbioaaaaGreatDoorEntJ
namespace Go.Proofs.YtoophfokbioaaaaGreatDoor
open Go.RowKit

theorem St.e_gone {w0 w : World} {R : HP} {e : Nat} {x : En} (h : St w0 w (EnAt e x * R)) : St w0 (((w.setCell ⟨e, 2, none⟩ (.int .i64 (-1))).setCell ⟨e, 1, none⟩ (.int .i64 1)).setCell ⟨e, 6, none⟩ (.slice none 0 0)) (EnAt e (((x.setTei (-1)).setState 1).setUnits []) * R) := by
  have h1 := (h.e_set_tei (-1)).e_set_state 1
  obtain ⟨rm, fp, uv, ov, rl, hr, h5⟩ := h1.e_open
  have h6 := (h5.set 6 (.slice none 0 0)).row_nil 9 1
  have h7 := h6.eq (show _ = blk e (.cells ((((x.setTei (-1)).setState 1).cells rm fp uv ov).setIfInBounds 6 (.slice none 0 0)) TEn (0, 0)) * (LAt TFx 11 Fx.cells ov ((x.setTei (-1)).setState 1).out * (MAt kInt vBool rm rl * (FAt TF TQ fp ((x.setTei (-1)).setState 1).fl * (Row 9 1 (.slice none 0 0) 0 [] * (Row 9 1 uv ((x.setTei (-1)).setState 1).units.length (strs ((x.setTei (-1)).setState 1).units) * R))))) by ac_rfl)
  exact (h7.e_shut (x := ((x.setTei (-1)).setState 1).setUnits []) rfl rfl hr rfl rfl rfl).f2.drop

set_option maxRecDepth 100000 in
set_option maxHeartbeats 1600000 in
theorem e_remove (e : Nat) (x : En) (ok : x.fl.Ok) (ho : x.out = []) (w0 w : World) (R : HP) (h : St w0 w (EnAt e x * R)) :
    Calls Tryz.prog 24 #[ptr e] w fun r w' => ∃ v, r = .returned (.tuple #[v, .int .i64 x.remove.2.2]) ∧ St w0 w' (LAt TFx 11 Fx.cells v x.remove.2.1 * (EnAt e x.remove.1 * R)) := by
  have c1 := h.e_c1
  unfold En.remove
  by_cases s1 : x.state = 1
  · rw [if_pos s1]
    rw [s1] at c1
    go_enter Tryz.func24, Tryz.ntmps24
    go_wp2
    go_ret2
    exact ⟨_, rfl, h.l_nil _ _ _⟩
  rw [if_neg s1]
  have b1 : (x.state == 1) = false := by simpa using s1
  have hl : x.out.length ≤ 99990 := by rw [ho]; decide
  have l1 := end1_len x
  have l2 : x.end1.out.length ≤ 100000 := by rw [ho] at l1; simp at l1; omega
  simp only []
  by_cases st : x.state = 3 ∨ x.state = 5 ∨ x.state = 7 ∨ x.state = 8
  · rw [if_pos st]
    rcases st with s | s | s | s
    all_goals
      rw [s] at c1
      clear b1
      go_enter Tryz.func24, Tryz.ntmps24
      go_wp2_with fail
      refine (e_end e x ok hl w0 _ R h).mono ?_
      rintro r w1 ⟨rfl, h3⟩
      go_wp2_with fail
      refine (e_told e x.end1 3 noStr l2 w0 _ R h3).mono ?_
      rintro r w2 ⟨rfl, h4⟩
      clear h3 c1 h
      have f4 := h4.e_fr
      have c1' := h4.e_c1
      have h5 := h4.e_gone
      obtain ⟨rm, fp, uv, ov, rl, hr, hq⟩ := h4.e_open
      have c2' := hq.cell
      clear hq hr
      go_wp2_with fail
      refine (e_done e _ w0 _ R h5).mono ?_
      rintro r w2 ⟨v, rfl, h6⟩
      clear f4 c1' c2' h4 h5
      go_wp2
      go_ret2
      exact ⟨v, rfl, h6⟩
  rw [if_neg st]
  by_cases s6 : x.state = 6
  · rw [if_pos s6]
    rw [s6] at c1
    clear b1
    go_enter Tryz.func24, Tryz.ntmps24
    go_wp2_with fail
    refine (e_end e x ok hl w0 _ R h).mono ?_
    rintro r w1 ⟨rfl, h3⟩
    go_wp2_with fail
    refine (e_told e x.end1 4 noStr l2 w0 _ R h3).mono ?_
    rintro r w2 ⟨rfl, h4⟩
    clear h3 c1 h
    have f4 := h4.e_fr
    have c1' := h4.e_c1
    have h5 := h4.e_gone
    obtain ⟨rm, fp, uv, ov, rl, hr, hq⟩ := h4.e_open
    have c2' := hq.cell
    clear hq hr
    go_wp2_with fail
    refine (e_done e _ w0 _ R h5).mono ?_
    rintro r w2 ⟨v, rfl, h6⟩
    clear f4 c1' c2' h4 h5
    go_wp2
    go_ret2
    exact ⟨v, rfl, h6⟩
  · rw [if_neg s6]
    have b3 : (x.state == 3) = false := by simpa using fun e => st (.inl e)
    have b5 : (x.state == 5) = false := by simpa using fun e => st (.inr (.inl e))
    have b7 : (x.state == 7) = false := by simpa using fun e => st (.inr (.inr (.inl e)))
    have b8 : (x.state == 8) = false := by simpa using fun e => st (.inr (.inr (.inr e)))
    have b6 : (x.state == 6) = false := by simpa using s6
    go_enter Tryz.func24, Tryz.ntmps24
    go_wp2_with fail
    refine (e_end e x ok hl w0 _ R h).mono ?_
    rintro r w1 ⟨rfl, h4⟩
    clear h
    have f4 := h4.e_fr
    have c1' := h4.e_c1
    have h5 := h4.e_gone
    obtain ⟨rm, fp, uv, ov, rl, hr, hq⟩ := h4.e_open
    have c2' := hq.cell
    clear hq hr
    go_wp2_with fail
    refine (e_done e _ w0 _ R h5).mono ?_
    rintro r w2 ⟨v, rfl, h6⟩
    clear f4 c1' c2' h4 h5
    go_wp2
    go_ret2
    exact ⟨v, rfl, h6⟩
end Go.Proofs.YtoophfokbioaaaaGreatDoor
