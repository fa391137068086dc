/- The entity: a frame comes, and a link was asked for, or none was. -/
import Derived.Test.YtoophfokbioaaaaDoorEntP
namespace Go.Proofs.YtoophfokbioaaaaDoor
open Go.RowKit

theorem En.unsure_len (x : En) : x.unsure.out.length ≤ x.out.length + 1 := by
  unfold En.unsure
  split
  · exact Nat.le_of_eq (En.told_len (x.setFl x.fl.clear) 1 noStr)
  · omega
theorem En.unsure_ok (x : En) (ok : x.fl.Ok) : x.unsure.fl.Ok := by
  unfold En.unsure
  split
  · exact ok.clear
  · exact ok

theorem e_inConnecting (e : Nat) (x : En) (y : Fr) (ok : x.fl.Ok) (hl : x.out.length ≤ 98000) (w0 w : World) (R : HP) (h : St w0 w (EnAt e x * R)) :
    Calls Tryd.prog 28 #[ptr e, .agg y.cells.toArray] w fun r w' => r = .returned (.tuple #[]) ∧ St w0 w' (EnAt e (x.inConnecting y) * R) := by
  obtain ⟨a1, a2, a3, k, pf, a6, a7, a8⟩ := y
  have h2 := h.alloc (.cells (Fr.cells ⟨a1, a2, a3, k, pf, a6, a7, a8⟩).toArray TFr)
  clear h
  unfold En.inConnecting
  simp only []
  by_cases k4 : k = 4
  · subst k4
    rw [if_pos rfl]
    go_enter Tryd.func28, Tryd.ntmps28
    go_upto_region 1 with fail
    generalize w.alloc _ = wa at *
    generalize w.heap.size = ga at *
    have d := h2.cell
    go_wp2_with fail
    refine (e_reply e x 8 ⟨a1, a2, a3, 4, pf, a6, a7, a8⟩ ok (by omega) w0 _ _ h2.f2).mono ?_
    rintro r w9 ⟨rfl, h9⟩
    go_wp2
    first
      | (go_end0; exact ⟨rfl, h9.f2.drop⟩)
      | (refine bodyPost_ret (v := .tuple #[]) (by simp [results, go_sem]) rfl ?_; exact ⟨rfl, h9.f2.drop⟩)
  rw [if_neg k4]
  have b4 : (k == 4) = false := by simpa using k4
  by_cases k7 : k = 7
  · subst k7
    rw [if_pos rfl]
    go_enter Tryd.func28, Tryd.ntmps28
    go_upto_region 1 with fail
    generalize w.alloc _ = wa at *
    generalize w.heap.size = ga at *
    have d := h2.cell
    go_wp2_with fail
    refine (e_reply e x 5 ⟨a1, a2, a3, 7, pf, a6, a7, a8⟩ ok (by omega) w0 _ _ h2.f2).mono ?_
    rintro r w9 ⟨rfl, h9⟩
    go_wp2
    first
      | (go_end0; exact ⟨rfl, h9.f2.drop⟩)
      | (refine bodyPost_ret (v := .tuple #[]) (by simp [results, go_sem]) rfl ?_; exact ⟨rfl, h9.f2.drop⟩)
  rw [if_neg k7]
  have b7 : (k == 7) = false := by simpa using k7
  by_cases k8 : k = 8
  · subst k8
    clear b4 b7 k4 k7
    cases pf with
    | false =>
      rw [if_pos ⟨rfl, rfl⟩]
      go_enter Tryd.func28, Tryd.ntmps28
      go_upto_region 1 with fail
      generalize w.alloc _ = wa at *
      generalize w.heap.size = ga at *
      have d := h2.cell
      go_wp2_with fail
      refine (e_told e x 7 ⟨#[68]⟩ (by omega) w0 _ _ h2.f2).mono ?_
      rintro r w9 ⟨rfl, h9⟩
      go_wp2
      first
        | (go_end0; exact ⟨rfl, h9.f2.drop⟩)
        | (refine bodyPost_ret (v := .tuple #[]) (by simp [results, go_sem]) rfl ?_; exact ⟨rfl, h9.f2.drop⟩)
    | true =>
      rw [if_neg (by simp), if_pos rfl]
      cases ha : x.asked with
      | true =>
        rw [if_pos rfl]
        have l1 := x.told_len 2 noStr
        go_enter Tryd.func28, Tryd.ntmps28
        go_upto_region 1 with fail
        generalize w.alloc _ = wa at *
        generalize w.heap.size = ga at *
        have d := h2.cell
        have c4 := h2.f2.e_c4
        rw [ha] at c4
        clear ha
        go_wp2_with fail
        refine (e_told e x 2 noStr (by omega) w0 _ _ h2.f2).mono ?_
        rintro r w1 ⟨rfl, h3⟩
        clear d h2 c4
        have f5 := (h3).e_fr
        have c5 := (h3).e_c4
        have h5 := (h3).e_set_asked false
        go_wp2_with fail
        refine (e_open1 e ((x.told 2 noStr).setAsked false) ok (show (x.told 2 noStr).out.length ≤ 98990 by omega) w0 _ _ h5).mono ?_
        rintro r w9 ⟨rfl, h9⟩
        go_wp2
        first
          | (go_end0; exact ⟨rfl, h9.f2.drop⟩)
          | (refine bodyPost_ret (v := .tuple #[]) (by simp [results, go_sem]) rfl ?_; exact ⟨rfl, h9.f2.drop⟩)
      | false =>
        rw [if_neg (by simp)]
        have l1 := x.unsure_len
        have ok1 := x.unsure_ok ok
        go_enter Tryd.func28, Tryd.ntmps28
        go_upto_region 1 with fail
        generalize w.alloc _ = wa at *
        generalize w.heap.size = ga at *
        have d := h2.cell
        have c4 := h2.f2.e_c4
        rw [ha] at c4
        clear ha
        go_wp2_with fail
        refine (e_unsure e x ok (by omega) w0 _ _ h2.f2).mono ?_
        rintro r w1 ⟨rfl, h3⟩
        clear d h2 c4
        have f5 := (h3).e_fr
        have c5 := (h3).e_c4
        have h5 := (h3).e_set_asked false
        go_wp2_with fail
        refine (e_open1 e ((x.unsure).setAsked false) ok1 (show x.unsure.out.length ≤ 98990 by omega) w0 _ _ h5).mono ?_
        rintro r w9 ⟨rfl, h9⟩
        go_wp2
        first
          | (go_end0; exact ⟨rfl, h9.f2.drop⟩)
          | (refine bodyPost_ret (v := .tuple #[]) (by simp [results, go_sem]) rfl ?_; exact ⟨rfl, h9.f2.drop⟩)
  rw [if_neg (fun h => k8 h.1), if_neg k8]
  have b8 : (k == 8) = false := by simpa using k8
  by_cases k5 : k = 5
  · subst k5
    clear b4 b7 k4 k7 b8 k8
    cases pf with
    | true =>
      rw [if_pos ⟨rfl, rfl⟩]
      have l1 := x.told_len 3 noStr
      go_enter Tryd.func28, Tryd.ntmps28
      go_upto_region 1 with fail
      generalize w.alloc _ = wa at *
      generalize w.heap.size = ga at *
      have d := h2.cell
      go_wp2_with fail
      refine (e_told e x 3 noStr (by omega) w0 _ _ h2.f2).mono ?_
      rintro r w1 ⟨rfl, h3⟩
      clear d h2
      go_wp2_with fail
      refine (e_end e (x.told 3 noStr) ok (by omega) w0 _ _ h3).mono ?_
      rintro r w9 ⟨rfl, h9⟩
      go_wp2
      first
        | (go_end0; exact ⟨rfl, h9.f2.drop⟩)
        | (refine bodyPost_ret (v := .tuple #[]) (by simp [results, go_sem]) rfl ?_; exact ⟨rfl, h9.f2.drop⟩)
    | false =>
      rw [if_neg (by simp)]
      go_enter Tryd.func28, Tryd.ntmps28
      go_upto_region 1 with fail
      generalize w.alloc _ = wa at *
      generalize w.heap.size = ga at *
      have d := h2.cell
      go_wp2
      go_end0
      exact ⟨rfl, h2.drop⟩
  · rw [if_neg (fun h => k5 h.1)]
    have b5 : (k == 5) = false := by simpa using k5
    go_enter Tryd.func28, Tryd.ntmps28
    go_upto_region 1 with fail
    generalize w.alloc _ = wa at *
    generalize w.heap.size = ga at *
    have d := h2.cell
    go_wp2
    go_end0
    exact ⟨rfl, h2.drop⟩

theorem e_inReleasing (e : Nat) (x : En) (y : Fr) (ok : x.fl.Ok) (hl : x.out.length ≤ 98000) (w0 w : World) (R : HP) (h : St w0 w (EnAt e x * R)) :
    Calls Tryd.prog 29 #[ptr e, .agg y.cells.toArray] w fun r w' => r = .returned (.tuple #[]) ∧ St w0 w' (EnAt e (x.inReleasing y) * R) := by
  obtain ⟨a1, a2, a3, k, pf, a6, a7, a8⟩ := y
  have h2 := h.alloc (.cells (Fr.cells ⟨a1, a2, a3, k, pf, a6, a7, a8⟩).toArray TFr)
  clear h
  unfold En.inReleasing
  simp only []
  by_cases k4 : k = 4
  · subst k4
    rw [if_pos rfl]
    go_enter Tryd.func29, Tryd.ntmps29
    go_upto_region 1 with fail
    generalize w.alloc _ = wa at *
    generalize w.heap.size = ga at *
    have d := h2.cell
    go_wp2_with fail
    refine (e_reply e x 5 ⟨a1, a2, a3, 4, pf, a6, a7, a8⟩ ok (by omega) w0 _ _ h2.f2).mono ?_
    rintro r w9 ⟨rfl, h9⟩
    go_wp2
    first
      | (go_end0; exact ⟨rfl, h9.f2.drop⟩)
      | (refine bodyPost_ret (v := .tuple #[]) (by simp [results, go_sem]) rfl ?_; exact ⟨rfl, h9.f2.drop⟩)
  rw [if_neg k4]
  have b4 : (k == 4) = false := by simpa using k4
  by_cases k7 : k = 7
  · subst k7
    rw [if_pos rfl]
    go_enter Tryd.func29, Tryd.ntmps29
    go_upto_region 1 with fail
    generalize w.alloc _ = wa at *
    generalize w.heap.size = ga at *
    have d := h2.cell
    go_wp2_with fail
    refine (e_reply e x 8 ⟨a1, a2, a3, 7, pf, a6, a7, a8⟩ ok (by omega) w0 _ _ h2.f2).mono ?_
    rintro r w9 ⟨rfl, h9⟩
    go_wp2
    first
      | (go_end0; exact ⟨rfl, h9.f2.drop⟩)
      | (refine bodyPost_ret (v := .tuple #[]) (by simp [results, go_sem]) rfl ?_; exact ⟨rfl, h9.f2.drop⟩)
  rw [if_neg k7]
  have b7 : (k == 7) = false := by simpa using k7
  by_cases k8 : k = 8
  · subst k8
    clear b4 b7 k4 k7
    cases pf with
    | false =>
      rw [if_pos ⟨rfl, rfl⟩]
      go_enter Tryd.func29, Tryd.ntmps29
      go_upto_region 1 with fail
      generalize w.alloc _ = wa at *
      generalize w.heap.size = ga at *
      have d := h2.cell
      go_wp2_with fail
      refine (e_told e x 7 ⟨#[68]⟩ (by omega) w0 _ _ h2.f2).mono ?_
      rintro r w9 ⟨rfl, h9⟩
      go_wp2
      first
        | (go_end0; exact ⟨rfl, h9.f2.drop⟩)
        | (refine bodyPost_ret (v := .tuple #[]) (by simp [results, go_sem]) rfl ?_; exact ⟨rfl, h9.f2.drop⟩)
    | true =>
      rw [if_neg (by simp), if_pos ⟨rfl, .inl rfl⟩]
      have l1 := x.told_len 4 noStr
      go_enter Tryd.func29, Tryd.ntmps29
      go_upto_region 1 with fail
      generalize w.alloc _ = wa at *
      generalize w.heap.size = ga at *
      have d := h2.cell
      go_wp2_with fail
      refine (e_told e x 4 noStr (by omega) w0 _ _ h2.f2).mono ?_
      rintro r w1 ⟨rfl, h3⟩
      clear d h2
      go_wp2_with fail
      refine (e_end e (x.told 4 noStr) ok (by omega) w0 _ _ h3).mono ?_
      rintro r w9 ⟨rfl, h9⟩
      go_wp2
      first
        | (go_end0; exact ⟨rfl, h9.f2.drop⟩)
        | (refine bodyPost_ret (v := .tuple #[]) (by simp [results, go_sem]) rfl ?_; exact ⟨rfl, h9.f2.drop⟩)
  rw [if_neg (fun h => k8 h.1)]
  have b8 : (k == 8) = false := by simpa using k8
  by_cases k5 : k = 5
  · subst k5
    clear b4 b7 k4 k7 b8 k8
    cases pf with
    | true =>
      rw [if_pos ⟨rfl, .inr rfl⟩]
      have l1 := x.told_len 4 noStr
      go_enter Tryd.func29, Tryd.ntmps29
      go_upto_region 1 with fail
      generalize w.alloc _ = wa at *
      generalize w.heap.size = ga at *
      have d := h2.cell
      go_wp2_with fail
      refine (e_told e x 4 noStr (by omega) w0 _ _ h2.f2).mono ?_
      rintro r w1 ⟨rfl, h3⟩
      clear d h2
      go_wp2_with fail
      refine (e_end e (x.told 4 noStr) ok (by omega) w0 _ _ h3).mono ?_
      rintro r w9 ⟨rfl, h9⟩
      go_wp2
      first
        | (go_end0; exact ⟨rfl, h9.f2.drop⟩)
        | (refine bodyPost_ret (v := .tuple #[]) (by simp [results, go_sem]) rfl ?_; exact ⟨rfl, h9.f2.drop⟩)
    | false =>
      rw [if_neg (by simp)]
      go_enter Tryd.func29, Tryd.ntmps29
      go_upto_region 1 with fail
      generalize w.alloc _ = wa at *
      generalize w.heap.size = ga at *
      have d := h2.cell
      go_wp2
      go_end0
      exact ⟨rfl, h2.drop⟩
  · rw [if_neg (fun h => h.2.elim k8 k5)]
    have b5 : (k == 5) = false := by simpa using k5
    cases pf with
    | true =>
      go_enter Tryd.func29, Tryd.ntmps29
      go_upto_region 1 with fail
      generalize w.alloc _ = wa at *
      generalize w.heap.size = ga at *
      have d := h2.cell
      go_wp2
      go_end0
      exact ⟨rfl, h2.drop⟩
    | false =>
      go_enter Tryd.func29, Tryd.ntmps29
      go_upto_region 1 with fail
      generalize w.alloc _ = wa at *
      generalize w.heap.size = ga at *
      have d := h2.cell
      go_wp2
      go_end0
      exact ⟨rfl, h2.drop⟩
end Go.Proofs.YtoophfokbioaaaaDoor
