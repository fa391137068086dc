/- The entity: reply, strange, unsure. -/
import Derived.Test.YtoophfokbioaaaaGreatDoorEntK
namespace Go.Proofs.YtoophfokbioaaaaGreatDoor
open Go.RowKit

abbrev TFr : TypeId := 54
theorem view_f6 (a b c g h : Int) (x y z : Bool) (w : World) : (Instr.field 41 (.agg #[.int .i64 a, .int .i64 b, .int .i64 c, .bool x, .bool y, .bool z, .int .i64 g, .int .i64 h]) 6).run Tryz.prog w = .ok (.int .i64 g) w := by kernel_rfl

theorem e_reply (e : Nat) (x : En) (k : Int) (y : Fr) (ok : x.fl.Ok) (hl : x.out.length ≤ 100000) (w0 w : World) (R : HP) (h : St w0 w (EnAt e x * R)) :
    Calls Tryz.prog 93 #[ptr e, .int .i64 k, .agg y.cells.toArray] w fun r w' => r = .returned (.tuple #[]) ∧ St w0 w' (EnAt e (x.send k false y.pf) * R) := by
  have h2 := h.alloc (.cells y.cells.toArray TFr)
  clear h
  go_enter Tryz.func93, Tryz.ntmps93
  go_upto_region 1 with fail
  generalize w.alloc _ = wa at *
  generalize w.heap.size = ga at *
  have d := h2.cell
  go_wp2_with fail
  refine (e_send e x k false y.pf ok hl w0 _ _ h2.f2).mono ?_
  rintro r w1 ⟨rfl, h3⟩
  clear d h2
  go_wp2
  go_end0
  exact ⟨rfl, h3.f2.drop⟩

theorem e_strange (e : Nat) (x : En) (y : Fr) (hl : x.out.length ≤ 100000) (w0 w : World) (R : HP) (h : St w0 w (EnAt e x * R)) :
    Calls Tryz.prog 95 #[ptr e, .agg y.cells.toArray] w fun r w' => r = .returned (.tuple #[]) ∧ St w0 w' (EnAt e (x.strange y) * R) := by
  obtain ⟨a1, a2, a3, a4, pf, a6, a7, a8⟩ := y
  have h2 := h.alloc (.cells (Fr.cells ⟨a1, a2, a3, a4, pf, a6, a7, a8⟩).toArray TFr)
  clear h
  unfold En.strange
  cases pf with
  | true =>
    rw [if_pos rfl]
    go_enter Tryz.func95, Tryz.ntmps95
    go_upto_region 1 with fail
    generalize w.alloc _ = wa at *
    generalize w.heap.size = ga at *
    have d := h2.cell
    go_wp2_with fail
    refine (e_told e x 7 ⟨#[67]⟩ hl w0 _ _ h2.f2).mono ?_
    rintro r w1 ⟨rfl, h3⟩
    clear d h2
    go_wp2
    go_end0
    exact ⟨rfl, h3.f2.drop⟩
  | false =>
    rw [if_neg (by simp)]
    go_enter Tryz.func95, Tryz.ntmps95
    go_upto_region 1 with fail
    generalize w.alloc _ = wa at *
    generalize w.heap.size = ga at *
    have d := h2.cell
    go_wp2_with fail
    refine (e_told e x 7 ⟨#[68]⟩ hl w0 _ _ h2.f2).mono ?_
    rintro r w1 ⟨rfl, h3⟩
    clear d h2
    go_wp2
    go_end0
    exact ⟨rfl, h3.f2.drop⟩

theorem e_unsure (e : Nat) (x : En) (ok : x.fl.Ok) (hl : x.out.length ≤ 100000) (w0 w : World) (R : HP) (h : St w0 w (EnAt e x * R)) :
    Calls Tryz.prog 96 #[ptr e] w fun r w' => r = .returned (.tuple #[]) ∧ St w0 w' (EnAt e x.unsure * R) := by
  have hv6 := view_f6
  obtain ⟨fp, R', c7, hf, hb⟩ := h.e_fl
  have hv := f_view fp x.fl w0 w _ hf ok
  unfold Fl.view at hv
  unfold En.unsure
  by_cases hs : x.fl.q.sent = 0
  · rw [if_neg (by simpa using hs)]
    rw [hs] at hv
    go_enter Tryz.func96, Tryz.ntmps96
    go_wp2_with fail
    refine hv.mono ?_
    rintro r w1 ⟨rfl, h3⟩
    have h4 := hb _ _ h3
    clear hv hf h3 hb c7 h
    go_wp2
    go_end0
    exact ⟨rfl, h4⟩
  · rw [if_pos hs]
    have bs : (((x.fl.q.sent : Nat) : Int) != 0) = true := by simp; omega
    go_enter Tryz.func96, Tryz.ntmps96
    go_wp2_with fail
    refine hv.mono ?_
    rintro r w1 ⟨rfl, h3⟩
    have h4 := hb _ _ h3
    clear hv hf h3 hb c7 h
    obtain ⟨fp, R', c7, hf, hb⟩ := h4.e_fl
    go_wp2_with fail
    refine (f_clear fp x.fl w0 w1 _ hf ok).mono ?_
    rintro r w2 ⟨rfl, h5⟩
    have h6 := hb _ _ h5
    clear hf hb h4 h5 c7
    go_wp2_with fail
    refine (e_told e (x.setFl x.fl.clear) 1 noStr hl w0 w2 R h6).mono ?_
    rintro r w3 ⟨rfl, h7⟩
    go_wp2
    go_end0
    exact ⟨rfl, h7⟩
end Go.Proofs.YtoophfokbioaaaaGreatDoor
