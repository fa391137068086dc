/- The entity: a frame comes, and no link is there, or none was asked for. -/
import Derived.Test.YtoophfokbioaaaaDoorEntO
namespace Go.Proofs.YtoophfokbioaaaaDoor
open Go.RowKit

theorem e_inAssigned (e : Nat) (x : En) (y : Fr) (ok : x.fl.Ok) (hl : x.out.length ≤ 98000) (w0 w : World) (R : HP) (h : St w0 w (EnAt e x * R)) :
    Calls Tryd.prog 27 #[ptr e, .agg y.cells.toArray] w fun r w' => r = .returned (.tuple #[]) ∧ St w0 w' (EnAt e (x.inAssigned y) * R) := by
  obtain ⟨a1, a2, a3, k, pf, a6, a7, a8⟩ := y
  have h2 := h.alloc (.cells (Fr.cells ⟨a1, a2, a3, k, pf, a6, a7, a8⟩).toArray TFr)
  have l1 := x.send_len 8 false pf
  have l2 := (x.send 8 false pf).told_len 1 noStr
  clear h
  unfold En.inAssigned
  simp only []
  by_cases k4 : k = 4
  · subst k4
    rw [if_pos rfl]
    go_enter Tryd.func27, Tryd.ntmps27
    go_upto_region 1 with fail
    generalize w.alloc _ = wa at *
    generalize w.heap.size = ga at *
    have d := h2.cell
    go_wp2_with fail
    refine (e_reply e x 8 ⟨a1, a2, a3, 4, pf, a6, a7, a8⟩ ok (by omega) w0 _ _ h2.f2).mono ?_
    rintro r w1 ⟨rfl, h3⟩
    clear d h2
    go_wp2_with fail
    refine (e_told e (x.send 8 false pf) 1 noStr (by omega) w0 _ _ h3).mono ?_
    rintro r w2 ⟨rfl, h4⟩
    clear h3
    go_wp2_with fail
    refine (e_open1 e ((x.send 8 false pf).told 1 noStr) ok (by omega) w0 _ _ h4).mono ?_
    rintro r w9 ⟨rfl, h9⟩
    go_wp2
    first
      | (go_end0; exact ⟨rfl, h9.f2.drop⟩)
      | (refine bodyPost_ret (v := .tuple #[]) (by simp [results, go_sem]) rfl ?_; exact ⟨rfl, h9.f2.drop⟩)
  rw [if_neg k4]
  have b4 : (k == 4) = false := by simpa using k4
  by_cases k7 : k = 7
  · subst k7
    rw [if_pos rfl]
    go_enter Tryd.func27, Tryd.ntmps27
    go_upto_region 1 with fail
    generalize w.alloc _ = wa at *
    generalize w.heap.size = ga at *
    have d := h2.cell
    go_wp2_with fail
    refine (e_reply e x 5 ⟨a1, a2, a3, 7, pf, a6, a7, a8⟩ ok (by omega) w0 _ _ h2.f2).mono ?_
    rintro r w9 ⟨rfl, h9⟩
    go_wp2
    first
      | (go_end0; exact ⟨rfl, h9.f2.drop⟩)
      | (refine bodyPost_ret (v := .tuple #[]) (by simp [results, go_sem]) rfl ?_; exact ⟨rfl, h9.f2.drop⟩)
  rw [if_neg k7]
  have b7 : (k == 7) = false := by simpa using k7
  by_cases k8 : k = 8
  · subst k8
    rw [if_pos rfl]
    go_enter Tryd.func27, Tryd.ntmps27
    go_upto_region 1 with fail
    generalize w.alloc _ = wa at *
    generalize w.heap.size = ga at *
    have d := h2.cell
    go_wp2_with fail
    refine (e_strange e x ⟨a1, a2, a3, 8, pf, a6, a7, a8⟩ (by omega) w0 _ _ h2.f2).mono ?_
    rintro r w9 ⟨rfl, h9⟩
    go_wp2
    first
      | (go_end0; exact ⟨rfl, h9.f2.drop⟩)
      | (refine bodyPost_ret (v := .tuple #[]) (by simp [results, go_sem]) rfl ?_; exact ⟨rfl, h9.f2.drop⟩)
  rw [if_neg k8]
  have b8 : (k == 8) = false := by simpa using k8
  by_cases k5 : k = 5
  · subst k5
    cases pf with
    | false =>
      rw [if_pos ⟨rfl, rfl⟩]
      have f4 := h2.f2.e_fr
      go_enter Tryd.func27, Tryd.ntmps27
      go_upto_region 1 with fail
      generalize w.alloc _ = wa at *
      generalize w.heap.size = ga at *
      have d := h2.cell
      have c4 := h2.f2.e_c4
      have f5 := h2.f2.e_fr
      have h3 := h2.f2.e_set_asked true
      clear f4
      go_wp2_with fail
      refine (e_call e (x.setAsked true) ok (show x.out.length ≤ 99990 by omega) w0 _ _ h3).mono ?_
      rintro r w9 ⟨rfl, h9⟩
      go_wp2
      first
        | (go_end0; exact ⟨rfl, h9.f2.drop⟩)
        | (refine bodyPost_ret (v := .tuple #[]) (by simp [results, go_sem]) rfl ?_; exact ⟨rfl, h9.f2.drop⟩)
    | true =>
      rw [if_neg (by simp)]
      go_enter Tryd.func27, Tryd.ntmps27
      go_upto_region 1 with fail
      generalize w.alloc _ = wa at *
      generalize w.heap.size = ga at *
      have d := h2.cell
      go_wp2
      go_end0
      exact ⟨rfl, h2.drop⟩
  · rw [if_neg (fun h => k5 h.1)]
    have b5 : (k == 5) = false := by simpa using k5
    go_enter Tryd.func27, Tryd.ntmps27
    go_upto_region 1 with fail
    generalize w.alloc _ = wa at *
    generalize w.heap.size = ga at *
    have d := h2.cell
    go_wp2
    go_end0
    exact ⟨rfl, h2.drop⟩
end Go.Proofs.YtoophfokbioaaaaDoor
