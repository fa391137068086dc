/- The entity: count. -/
import Derived.Test.YtoophfokbioaaaaDoorEntN
namespace Go.Proofs.YtoophfokbioaaaaDoor
open Go.RowKit

theorem e_count (e : Nat) (x : En) (n : Int) (ok : x.fl.Ok) (hl : x.out.length ≤ 99990) (w0 w : World) (R : HP) (h : St w0 w (EnAt e x * R)) :
    Calls Tryd.prog 63 #[ptr e, .int .i64 n] w fun r w' => r = .returned (.tuple #[]) ∧ St w0 w' (EnAt e (x.count n) * R) := by
  obtain ⟨fp, R', c7, hf, hb⟩ := h.e_fl
  have hv := f_view fp x.fl w0 w _ hf ok
  unfold Fl.view at hv
  unfold En.count
  have l1 := x.stop_len 200
  by_cases hs : x.fl.va = x.fl.vs
  · rw [if_pos hs]
    have b : (((x.fl.va : Nat) : Int) == ((x.fl.vs : Nat) : Int)) = true := by simp [hs]
    have HS := Lib.hid hs
    clear hs
    go_enter Tryd.func63, Tryd.ntmps63
    go_wp2_with fail
    refine hv.mono ?_
    rintro r w1 ⟨rfl, h3⟩
    have h4 := (hb _ _ h3).alloc (.cells #[.int .i64 x.fl.vs, .int .i64 x.fl.va, .int .i64 x.fl.vr, .bool x.fl.peer, .bool x.fl.own, .bool x.fl.refused, .int .i64 x.fl.q.sent, .int .i64 ((x.fl.q.l.length : Int) - x.fl.q.sent)] 34)
    clear hv hf h3 hb c7 h
    go_upto_region 1 with fail
    generalize w1.alloc _ = wa at *
    generalize w1.heap.size = ga at *
    have d := h4.cell
    go_wp2_with fail
    refine (e_stop e x 200 (.inl rfl) (by omega) w0 _ _ h4.f2).mono ?_
    rintro r w2 ⟨rfl, h5⟩
    clear d h4
    go_wp2_with fail
    refine (e_start e _ 203 (.inr rfl) (by omega) w0 _ _ h5).mono ?_
    rintro r w3 ⟨rfl, h6⟩
    go_wp2
    go_end0
    exact ⟨rfl, h6.f2.drop⟩
  · rw [if_neg hs]
    have b : (((x.fl.va : Nat) : Int) == ((x.fl.vs : Nat) : Int)) = false := by simp; omega
    by_cases hn : 0 < n
    · rw [if_pos hn]
      have bn : decide (n > 0) = true := by simpa using hn
      go_enter Tryd.func63, Tryd.ntmps63
      go_wp2_with fail
      refine hv.mono ?_
      rintro r w1 ⟨rfl, h3⟩
      have h4 := (hb _ _ h3).alloc (.cells #[.int .i64 x.fl.vs, .int .i64 x.fl.va, .int .i64 x.fl.vr, .bool x.fl.peer, .bool x.fl.own, .bool x.fl.refused, .int .i64 x.fl.q.sent, .int .i64 ((x.fl.q.l.length : Int) - x.fl.q.sent)] 34)
      clear hv hf h3 hb c7 h
      go_upto_region 1 with fail
      generalize w1.alloc _ = wa at *
      generalize w1.heap.size = ga at *
      have d := h4.cell
      go_wp2_with fail
      refine (e_start e x 200 (.inl rfl) (by omega) w0 _ _ h4.f2).mono ?_
      rintro r w2 ⟨rfl, h5⟩
      clear d h4
      go_wp2
      go_end0
      exact ⟨rfl, h5.f2.drop⟩
    · rw [if_neg hn]
      have bn : decide (n > 0) = false := by simpa using hn
      go_enter Tryd.func63, Tryd.ntmps63
      go_wp2_with fail
      refine hv.mono ?_
      rintro r w1 ⟨rfl, h3⟩
      have h4 := (hb _ _ h3).alloc (.cells #[.int .i64 x.fl.vs, .int .i64 x.fl.va, .int .i64 x.fl.vr, .bool x.fl.peer, .bool x.fl.own, .bool x.fl.refused, .int .i64 x.fl.q.sent, .int .i64 ((x.fl.q.l.length : Int) - x.fl.q.sent)] 34)
      clear hv hf h3 hb c7 h
      go_upto_region 1 with fail
      generalize w1.alloc _ = wa at *
      generalize w1.heap.size = ga at *
      have d := h4.cell
      go_wp2
      go_end0
      exact ⟨rfl, h4.drop⟩
end Go.Proofs.YtoophfokbioaaaaDoor
