/- The entity: Remove. The entity: reply, strange, unsure. The entity: again, count. -/
import Derived.Test.YtoophfokbioaaaaDoorEntJ
namespace Go.Proofs.YtoophfokbioaaaaDoor
open Go.RowKit

theorem St.e_gone {w0 w : World} {R : HP} {e : Nat} {x : En} (h : St w0 w (EnAt e x * R)) : St w0 (((w.setCell ⟨e, 2, none⟩ (.int .i64 (-1))).setCell ⟨e, 1, none⟩ (.int .i64 1)).setCell ⟨e, 6, none⟩ (.slice none 0 0)) (EnAt e (((x.setTei (-1)).setState 1).setUnits []) * R) := by
  have h1 := (h.e_set_tei (-1)).e_set_state 1
  obtain ⟨rm, fp, uv, ov, rl, hr, h5⟩ := h1.e_open
  have h6 := (h5.set 6 (.slice none 0 0)).row_nil 9 1
  have h7 := h6.eq (show _ = blk e (.cells ((((x.setTei (-1)).setState 1).cells rm fp uv ov).setIfInBounds 6 (.slice none 0 0)) TEn (0, 0)) * (LAt TFx 11 Fx.cells ov ((x.setTei (-1)).setState 1).out * (MAt kInt vBool rm rl * (FAt TF TQ fp ((x.setTei (-1)).setState 1).fl * (Row 9 1 (.slice none 0 0) 0 [] * (Row 9 1 uv ((x.setTei (-1)).setState 1).units.length (strs ((x.setTei (-1)).setState 1).units) * R))))) by ac_rfl)
  exact (h7.e_shut (x := ((x.setTei (-1)).setState 1).setUnits []) rfl rfl hr rfl rfl rfl).f2.drop

set_option maxRecDepth 100000 in
set_option maxHeartbeats 1600000 in
theorem e_remove (e : Nat) (x : En) (ok : x.fl.Ok) (ho : x.out = []) (w0 w : World) (R : HP) (h : St w0 w (EnAt e x * R)) :
    Calls Tryd.prog 11 #[ptr e] w fun r w' => ∃ v, r = .returned (.tuple #[v, .int .i64 x.remove.2.2]) ∧ St w0 w' (LAt TFx 11 Fx.cells v x.remove.2.1 * (EnAt e x.remove.1 * R)) := by
  have c1 := h.e_c1
  unfold En.remove
  by_cases s1 : x.state = 1
  · rw [if_pos s1]
    rw [s1] at c1
    go_enter Tryd.func11, Tryd.ntmps11
    go_wp2
    go_ret2
    exact ⟨_, rfl, h.l_nil _ _ _⟩
  rw [if_neg s1]
  have b1 : (x.state == 1) = false := by simpa using s1
  have hl : x.out.length ≤ 99990 := by rw [ho]; decide
  have l1 := end1_len x
  have l2 : x.end1.out.length ≤ 100000 := by rw [ho] at l1; simp at l1; omega
  simp only []
  by_cases st : x.state = 3 ∨ x.state = 5 ∨ x.state = 7 ∨ x.state = 8
  · rw [if_pos st]
    rcases st with s | s | s | s
    all_goals
      rw [s] at c1
      clear b1
      go_enter Tryd.func11, Tryd.ntmps11
      go_wp2_with fail
      refine (e_end e x ok hl w0 _ R h).mono ?_
      rintro r w1 ⟨rfl, h3⟩
      go_wp2_with fail
      refine (e_told e x.end1 3 noStr l2 w0 _ R h3).mono ?_
      rintro r w2 ⟨rfl, h4⟩
      clear h3 c1 h
      have f4 := h4.e_fr
      have c1' := h4.e_c1
      have h5 := h4.e_gone
      obtain ⟨rm, fp, uv, ov, rl, hr, hq⟩ := h4.e_open
      have c2' := hq.cell
      clear hq hr
      go_wp2_with fail
      refine (e_done e _ w0 _ R h5).mono ?_
      rintro r w2 ⟨v, rfl, h6⟩
      clear f4 c1' c2' h4 h5
      go_wp2
      go_ret2
      exact ⟨v, rfl, h6⟩
  rw [if_neg st]
  by_cases s6 : x.state = 6
  · rw [if_pos s6]
    rw [s6] at c1
    clear b1
    go_enter Tryd.func11, Tryd.ntmps11
    go_wp2_with fail
    refine (e_end e x ok hl w0 _ R h).mono ?_
    rintro r w1 ⟨rfl, h3⟩
    go_wp2_with fail
    refine (e_told e x.end1 4 noStr l2 w0 _ R h3).mono ?_
    rintro r w2 ⟨rfl, h4⟩
    clear h3 c1 h
    have f4 := h4.e_fr
    have c1' := h4.e_c1
    have h5 := h4.e_gone
    obtain ⟨rm, fp, uv, ov, rl, hr, hq⟩ := h4.e_open
    have c2' := hq.cell
    clear hq hr
    go_wp2_with fail
    refine (e_done e _ w0 _ R h5).mono ?_
    rintro r w2 ⟨v, rfl, h6⟩
    clear f4 c1' c2' h4 h5
    go_wp2
    go_ret2
    exact ⟨v, rfl, h6⟩
  · rw [if_neg s6]
    have b3 : (x.state == 3) = false := by simpa using fun e => st (.inl e)
    have b5 : (x.state == 5) = false := by simpa using fun e => st (.inr (.inl e))
    have b7 : (x.state == 7) = false := by simpa using fun e => st (.inr (.inr (.inl e)))
    have b8 : (x.state == 8) = false := by simpa using fun e => st (.inr (.inr (.inr e)))
    have b6 : (x.state == 6) = false := by simpa using s6
    go_enter Tryd.func11, Tryd.ntmps11
    go_wp2_with fail
    refine (e_end e x ok hl w0 _ R h).mono ?_
    rintro r w1 ⟨rfl, h4⟩
    clear h
    have f4 := h4.e_fr
    have c1' := h4.e_c1
    have h5 := h4.e_gone
    obtain ⟨rm, fp, uv, ov, rl, hr, hq⟩ := h4.e_open
    have c2' := hq.cell
    clear hq hr
    go_wp2_with fail
    refine (e_done e _ w0 _ R h5).mono ?_
    rintro r w2 ⟨v, rfl, h6⟩
    clear f4 c1' c2' h4 h5
    go_wp2
    go_ret2
    exact ⟨v, rfl, h6⟩
end Go.Proofs.YtoophfokbioaaaaDoor

namespace Go.Proofs.YtoophfokbioaaaaDoor
open Go.RowKit

abbrev TFr : TypeId := 45
theorem view_f6 (a b c g h : Int) (x y z : Bool) (w : World) : (Instr.field 34 (.agg #[.int .i64 a, .int .i64 b, .int .i64 c, .bool x, .bool y, .bool z, .int .i64 g, .int .i64 h]) 6).run Tryd.prog w = .ok (.int .i64 g) w := by kernel_rfl

theorem e_reply (e : Nat) (x : En) (k : Int) (y : Fr) (ok : x.fl.Ok) (hl : x.out.length ≤ 100000) (w0 w : World) (R : HP) (h : St w0 w (EnAt e x * R)) :
    Calls Tryd.prog 50 #[ptr e, .int .i64 k, .agg y.cells.toArray] w fun r w' => r = .returned (.tuple #[]) ∧ St w0 w' (EnAt e (x.send k false y.pf) * R) := by
  have h2 := h.alloc (.cells y.cells.toArray TFr)
  clear h
  go_enter Tryd.func50, Tryd.ntmps50
  go_upto_region 1 with fail
  generalize w.alloc _ = wa at *
  generalize w.heap.size = ga at *
  have d := h2.cell
  go_wp2_with fail
  refine (e_send e x k false y.pf ok hl w0 _ _ h2.f2).mono ?_
  rintro r w1 ⟨rfl, h3⟩
  clear d h2
  go_wp2
  go_end0
  exact ⟨rfl, h3.f2.drop⟩

theorem e_strange (e : Nat) (x : En) (y : Fr) (hl : x.out.length ≤ 100000) (w0 w : World) (R : HP) (h : St w0 w (EnAt e x * R)) :
    Calls Tryd.prog 52 #[ptr e, .agg y.cells.toArray] w fun r w' => r = .returned (.tuple #[]) ∧ St w0 w' (EnAt e (x.strange y) * R) := by
  obtain ⟨a1, a2, a3, a4, pf, a6, a7, a8⟩ := y
  have h2 := h.alloc (.cells (Fr.cells ⟨a1, a2, a3, a4, pf, a6, a7, a8⟩).toArray TFr)
  clear h
  unfold En.strange
  cases pf with
  | true =>
    rw [if_pos rfl]
    go_enter Tryd.func52, Tryd.ntmps52
    go_upto_region 1 with fail
    generalize w.alloc _ = wa at *
    generalize w.heap.size = ga at *
    have d := h2.cell
    go_wp2_with fail
    refine (e_told e x 7 ⟨#[67]⟩ hl w0 _ _ h2.f2).mono ?_
    rintro r w1 ⟨rfl, h3⟩
    clear d h2
    go_wp2
    go_end0
    exact ⟨rfl, h3.f2.drop⟩
  | false =>
    rw [if_neg (by simp)]
    go_enter Tryd.func52, Tryd.ntmps52
    go_upto_region 1 with fail
    generalize w.alloc _ = wa at *
    generalize w.heap.size = ga at *
    have d := h2.cell
    go_wp2_with fail
    refine (e_told e x 7 ⟨#[68]⟩ hl w0 _ _ h2.f2).mono ?_
    rintro r w1 ⟨rfl, h3⟩
    clear d h2
    go_wp2
    go_end0
    exact ⟨rfl, h3.f2.drop⟩

theorem e_unsure (e : Nat) (x : En) (ok : x.fl.Ok) (hl : x.out.length ≤ 100000) (w0 w : World) (R : HP) (h : St w0 w (EnAt e x * R)) :
    Calls Tryd.prog 53 #[ptr e] w fun r w' => r = .returned (.tuple #[]) ∧ St w0 w' (EnAt e x.unsure * R) := by
  have hv6 := view_f6
  obtain ⟨fp, R', c7, hf, hb⟩ := h.e_fl
  have hv := f_view fp x.fl w0 w _ hf ok
  unfold Fl.view at hv
  unfold En.unsure
  by_cases hs : x.fl.q.sent = 0
  · rw [if_neg (by simpa using hs)]
    rw [hs] at hv
    go_enter Tryd.func53, Tryd.ntmps53
    go_wp2_with fail
    refine hv.mono ?_
    rintro r w1 ⟨rfl, h3⟩
    have h4 := hb _ _ h3
    clear hv hf h3 hb c7 h
    go_wp2
    go_end0
    exact ⟨rfl, h4⟩
  · rw [if_pos hs]
    have bs : (((x.fl.q.sent : Nat) : Int) != 0) = true := by simp; omega
    go_enter Tryd.func53, Tryd.ntmps53
    go_wp2_with fail
    refine hv.mono ?_
    rintro r w1 ⟨rfl, h3⟩
    have h4 := hb _ _ h3
    clear hv hf h3 hb c7 h
    obtain ⟨fp, R', c7, hf, hb⟩ := h4.e_fl
    go_wp2_with fail
    refine (f_clear fp x.fl w0 w1 _ hf ok).mono ?_
    rintro r w2 ⟨rfl, h5⟩
    have h6 := hb _ _ h5
    clear hf hb h4 h5 c7
    go_wp2_with fail
    refine (e_told e (x.setFl x.fl.clear) 1 noStr hl w0 w2 R h6).mono ?_
    rintro r w3 ⟨rfl, h7⟩
    go_wp2
    go_end0
    exact ⟨rfl, h7⟩
end Go.Proofs.YtoophfokbioaaaaDoor

namespace Go.Proofs.YtoophfokbioaaaaDoor
open Go.RowKit

theorem e_again (e : Nat) (x : En) (k : Int) (l : ByteArray) (g : Int) (ok : x.fl.Ok) (ht : 0 ≤ x.tries ∧ x.tries ≤ 1000) (hl : x.out.length ≤ 99980) (w0 w : World) (R : HP) (h : St w0 w (EnAt e x * R)) :
    Calls Tryd.prog 31 #[ptr e, .int .i64 k, .string l, .int .i64 g] w fun r w' => r = .returned (.tuple #[]) ∧ St w0 w' (EnAt e (x.again k l g) * R) := by
  have c0 := h.e_c0
  have c3 := h.e_c3
  have l1 := x.told_len 7 l
  have l2 := (x.told 7 l).told_len g noStr
  unfold En.again
  by_cases hm : x.tries = x.most
  · rw [if_pos hm]
    have b : (x.tries == x.most) = true := by simpa using hm
    have H := Lib.hid h
    go_enter Tryd.func31, Tryd.ntmps31
    clear hm h
    go_wp2
    go_quiet (fail)
    go_wp2_with fail
    refine (e_told e x 7 l (by omega) w0 _ R (H.out.drewN _)).mono ?_
    rintro r w1 ⟨rfl, h3⟩
    go_wp2_with fail
    refine (e_told e (x.told 7 l) g noStr (by omega) w0 _ R h3).mono ?_
    rintro r w2 ⟨rfl, h4⟩
    go_wp2_with fail
    refine (e_end e ((x.told 7 l).told g noStr) ok (by omega) w0 _ R h4).mono ?_
    rintro r w3 ⟨rfl, h5⟩
    clear c0 c3 h3 h4
    go_wp2
    refine bodyPost_ret (v := .tuple #[]) (by simp [results, Tryd.results31, go_sem]) rfl ?_
    exact ⟨rfl, h5⟩
  · rw [if_neg hm]
    have b : (x.tries == x.most) = false := by simpa using hm
    have hw : IntKind.i64.wrap (x.tries + 1) = x.tries + 1 := by rw [IntKind.wrap_i64]; omega
    have H := Lib.hid h
    have l3 : ((x.setTries (x.tries + 1)).send k true true).out.length = x.out.length + 1 := En.send_len (x.setTries (x.tries + 1)) k true true
    have f := h.e_fr
    go_enter Tryd.func31, Tryd.ntmps31
    clear hm h
    go_wp2
    go_quiet (fail)
    go_wp2_with fail
    refine (e_send e (x.setTries (x.tries + 1)) k true true ok (show x.out.length ≤ 100000 by omega) w0 _ R ((H.out.drewN _).e_set_tries (x.tries + 1))).mono ?_
    rintro r w1 ⟨rfl, h3⟩
    clear c0 c3 f
    go_wp2_with fail
    refine (e_start e _ 200 (.inl rfl) (by omega) w0 _ R h3).mono ?_
    rintro r w2 ⟨rfl, h4⟩
    go_wp2
    go_end0
    exact ⟨rfl, h4⟩
end Go.Proofs.YtoophfokbioaaaaDoor
