/- The entity: a frame comes. -/
import Derived.Test.YtoophfokbioaaaaDoorEntQ
import Derived.Test.YtoophfokbioaaaaDoorEntT
namespace Go.Proofs.YtoophfokbioaaaaDoor
open Go.RowKit

theorem e_inOpen (e : Nat) (x : En) (y : Fr) (ok : x.fl.Ok) (hs : x.state = 7 ∨ x.state = 8) (hl : x.out.length ≤ 96000) (w0 w : World) (R : HP) (h : St w0 w (EnAt e x * R)) :
    Calls Tryd.prog 30 #[ptr e, .agg y.cells.toArray] w fun r w' => r = .returned (.tuple #[]) ∧ St w0 w' (EnAt e (x.inOpen y) * R) := by
  obtain ⟨a1, a2, a3, k, pf, a6, a7, a8⟩ := y
  have h2 := h.alloc (.cells (Fr.cells ⟨a1, a2, a3, k, pf, a6, a7, a8⟩).toArray TFr)
  clear h
  unfold En.inOpen
  simp only []
  by_cases k4 : k = 4
  · subst k4
    rw [if_pos rfl]
    have l1 := x.send_len 8 false pf
    have l2 := (x.send 8 false pf).told_len 7 ⟨#[70]⟩
    have l3 := ((x.send 8 false pf).told 7 ⟨#[70]⟩).unsure_len
    have ok3 := ((x.send 8 false pf).told 7 ⟨#[70]⟩).unsure_ok ok
    go_enter Tryd.func30, Tryd.ntmps30
    go_upto_region 1 with fail
    generalize w.alloc _ = wa at *
    generalize w.heap.size = ga at *
    have d := h2.cell
    go_wp2_with fail
    refine (e_reply e x 8 ⟨a1, a2, a3, 4, pf, a6, a7, a8⟩ ok (by omega) w0 _ _ h2.f2).mono ?_
    rintro r w1 ⟨rfl, h3⟩
    clear d h2
    go_wp2_with fail
    refine (e_told e (x.send 8 false pf) 7 ⟨#[70]⟩ (by omega) w0 _ _ h3).mono ?_
    rintro r w2 ⟨rfl, h4⟩
    go_wp2_with fail
    refine (e_unsure e ((x.send 8 false pf).told 7 ⟨#[70]⟩) ok (by omega) w0 _ _ h4).mono ?_
    rintro r w3 ⟨rfl, h5⟩
    go_wp2_with fail
    refine (e_open1 e ((x.send 8 false pf).told 7 ⟨#[70]⟩).unsure ok3 (by omega) w0 _ _ h5).mono ?_
    rintro r w9 ⟨rfl, h9⟩
    go_wp2
    first
      | (go_end0; exact ⟨rfl, h9.f2.drop⟩)
      | (refine bodyPost_ret (v := .tuple #[]) (by simp [results, go_sem]) rfl ?_; exact ⟨rfl, h9.f2.drop⟩)
  rw [if_neg k4]
  have b4 : (k == 4) = false := by simpa using k4
  by_cases k7 : k = 7
  · subst k7
    rw [if_pos rfl]
    have l1 := x.send_len 8 false pf
    have l2 := (x.send 8 false pf).told_len 3 noStr
    go_enter Tryd.func30, Tryd.ntmps30
    go_upto_region 1 with fail
    generalize w.alloc _ = wa at *
    generalize w.heap.size = ga at *
    have d := h2.cell
    go_wp2_with fail
    refine (e_reply e x 8 ⟨a1, a2, a3, 7, pf, a6, a7, a8⟩ ok (by omega) w0 _ _ h2.f2).mono ?_
    rintro r w1 ⟨rfl, h3⟩
    clear d h2
    go_wp2_with fail
    refine (e_told e (x.send 8 false pf) 3 noStr (by omega) w0 _ _ h3).mono ?_
    rintro r w2 ⟨rfl, h4⟩
    go_wp2_with fail
    refine (e_end e ((x.send 8 false pf).told 3 noStr) ok (by omega) w0 _ _ h4).mono ?_
    rintro r w9 ⟨rfl, h9⟩
    go_wp2
    first
      | (go_end0; exact ⟨rfl, h9.f2.drop⟩)
      | (refine bodyPost_ret (v := .tuple #[]) (by simp [results, go_sem]) rfl ?_; exact ⟨rfl, h9.f2.drop⟩)
  rw [if_neg k7]
  have b7 : (k == 7) = false := by simpa using k7
  by_cases k8 : k = 8
  · subst k8
    rw [if_pos rfl]
    go_enter Tryd.func30, Tryd.ntmps30
    go_upto_region 1 with fail
    generalize w.alloc _ = wa at *
    generalize w.heap.size = ga at *
    have d := h2.cell
    go_wp2_with fail
    refine (e_strange e x ⟨a1, a2, a3, 8, pf, a6, a7, a8⟩ (by omega) w0 _ _ h2.f2).mono ?_
    rintro r w9 ⟨rfl, h9⟩
    go_wp2
    first
      | (go_end0; exact ⟨rfl, h9.f2.drop⟩)
      | (refine bodyPost_ret (v := .tuple #[]) (by simp [results, go_sem]) rfl ?_; exact ⟨rfl, h9.f2.drop⟩)
  rw [if_neg k8]
  have b8 : (k == 8) = false := by simpa using k8
  by_cases k5 : k = 5
  · subst k5
    rw [if_pos rfl]
    cases pf with
    | true =>
      rw [if_pos rfl]
      go_enter Tryd.func30, Tryd.ntmps30
      go_upto_region 1 with fail
      generalize w.alloc _ = wa at *
      generalize w.heap.size = ga at *
      have d := h2.cell
      go_wp2_with fail
      refine (e_anew e x ⟨#[66]⟩ ok (by omega) w0 _ _ h2.f2).mono ?_
      rintro r w9 ⟨rfl, h9⟩
      go_wp2
      first
        | (go_end0; exact ⟨rfl, h9.f2.drop⟩)
        | (refine bodyPost_ret (v := .tuple #[]) (by simp [results, go_sem]) rfl ?_; exact ⟨rfl, h9.f2.drop⟩)
    | false =>
      rw [if_neg (by simp)]
      go_enter Tryd.func30, Tryd.ntmps30
      go_upto_region 1 with fail
      generalize w.alloc _ = wa at *
      generalize w.heap.size = ga at *
      have d := h2.cell
      go_wp2_with fail
      refine (e_anew e x ⟨#[69]⟩ ok (by omega) w0 _ _ h2.f2).mono ?_
      rintro r w9 ⟨rfl, h9⟩
      go_wp2
      first
        | (go_end0; exact ⟨rfl, h9.f2.drop⟩)
        | (refine bodyPost_ret (v := .tuple #[]) (by simp [results, go_sem]) rfl ?_; exact ⟨rfl, h9.f2.drop⟩)
  rw [if_neg k5]
  have b5 : (k == 5) = false := by simpa using k5
  by_cases k9 : k = 9
  · subst k9
    rw [if_pos rfl]
    go_enter Tryd.func30, Tryd.ntmps30
    go_upto_region 1 with fail
    generalize w.alloc _ = wa at *
    generalize w.heap.size = ga at *
    have d := h2.cell
    go_wp2_with fail
    refine (e_anew e x ⟨#[75]⟩ ok (by omega) w0 _ _ h2.f2).mono ?_
    rintro r w9 ⟨rfl, h9⟩
    go_wp2
    first
      | (go_end0; exact ⟨rfl, h9.f2.drop⟩)
      | (refine bodyPost_ret (v := .tuple #[]) (by simp [results, go_sem]) rfl ?_; exact ⟨rfl, h9.f2.drop⟩)
  rw [if_neg k9]
  have b9 : (k == 9) = false := by simpa using k9
  by_cases k0 : k = 0
  · subst k0
    rw [if_pos rfl]
    go_enter Tryd.func30, Tryd.ntmps30
    go_upto_region 1 with fail
    generalize w.alloc _ = wa at *
    generalize w.heap.size = ga at *
    have d := h2.cell
    go_wp2_with fail
    refine (e_info e x ⟨a1, a2, a3, 0, pf, a6, a7, a8⟩ ok (by omega) w0 _ _ h2.f2).mono ?_
    rintro r w9 ⟨rfl, h9⟩
    go_wp2
    first
      | (go_end0; exact ⟨rfl, h9.f2.drop⟩)
      | (refine bodyPost_ret (v := .tuple #[]) (by simp [results, go_sem]) rfl ?_; exact ⟨rfl, h9.f2.drop⟩)
  rw [if_neg k0]
  have b0 : (k == 0) = false := by simpa using k0
  go_enter Tryd.func30, Tryd.ntmps30
  go_upto_region 1 with fail
  generalize w.alloc _ = wa at *
  generalize w.heap.size = ga at *
  have d := h2.cell
  go_wp2_with fail
  refine (e_supervised e x ⟨a1, a2, a3, k, pf, a6, a7, a8⟩ ok hs (by omega) w0 _ _ h2.f2).mono ?_
  rintro r w9 ⟨rfl, h9⟩
  go_wp2
  first
    | (go_end0; exact ⟨rfl, h9.f2.drop⟩)
    | (refine bodyPost_ret (v := .tuple #[]) (by simp [results, go_sem]) rfl ?_; exact ⟨rfl, h9.f2.drop⟩)

/-! Frame -/
set_option maxRecDepth 100000 in
set_option maxHeartbeats 1600000 in
theorem e_frame (e : Nat) (x : En) (y : Fr) (ok : x.fl.Ok) (hs : 0 ≤ x.tei → 4 ≤ x.state ∧ x.state ≤ 8) (hl : x.out.length ≤ 95000) (w0 w : World) (R : HP) (hN : NamesAt w) (h : St w0 w (EnAt e x * R)) :
    Calls Tryd.prog 12 #[ptr e, .agg y.cells.toArray] w fun r w' => ∃ v, r = .returned v ∧ St w0 w' (LAt TFx 11 Fx.cells v (x.frame y).2 * (EnAt e (x.frame y).1 * R)) := by
  obtain ⟨a1, a2, cmd, k, pf, a6, a7, inf⟩ := y
  have h2 := h.alloc (.cells (Fr.cells ⟨a1, a2, cmd, k, pf, a6, a7, inf⟩).toArray TFr)
  have hN2 : NamesAt (w.alloc (.cells (Fr.cells ⟨a1, a2, cmd, k, pf, a6, a7, inf⟩).toArray TFr)) := hN.old ((Below.refl w.heap.size w).alloc (Nat.le_refl _) _) hN.pos
  clear h hN
  unfold En.frame
  simp only []
  by_cases ht : x.tei < 0
  · rw [if_pos (.inl ht)]
    have bt : decide (x.tei < 0) = true := by simpa using ht
    go_enter Tryd.func12, Tryd.ntmps12
    go_upto_region 1 with fail
    generalize w.alloc _ = wa at *
    generalize w.heap.size = ga at *
    have c2 := h2.f2.e_c2
    go_wp2
    go_ret
    exact ⟨_, rfl, h2.drop.l_nil _ _ _⟩
  have bt : decide (x.tei < 0) = false := by simpa using ht
  have hs' := hs (by omega)
  have hmay := k_may k cmd
  cases hm : mayK k cmd with
  | false =>
    rw [if_pos (.inr (.inl rfl))]
    rw [hm] at hmay
    go_enter Tryd.func12, Tryd.ntmps12
    go_upto_region 1 with fail
    generalize w.alloc _ = wa at *
    generalize w.heap.size = ga at *
    have c2 := h2.f2.e_c2
    have d := h2.cell
    go_wp2_with fail
    refine (hmay wa).mono ?_
    rintro r w1 ⟨rfl, rfl⟩
    go_wp2
    go_ret
    exact ⟨_, rfl, h2.drop.l_nil _ _ _⟩
  | true =>
    rw [hm] at hmay
    have hcar := k_carries k (inf.size : Int) _ hN2
    cases hc : carries k (inf.size : Int) with
    | false =>
      rw [if_pos (.inr (.inr rfl))]
      rw [hc] at hcar
      go_enter Tryd.func12, Tryd.ntmps12
      go_upto_region 1 with fail
      generalize w.alloc _ = wa at *
      generalize w.heap.size = ga at *
      have c2 := h2.f2.e_c2
      have d := h2.cell
      go_wp2_with fail
      refine (hmay wa).mono ?_
      rintro r w1 ⟨rfl, rfl⟩
      go_wp2_with fail
      refine hcar.mono ?_
      rintro r w2 ⟨rfl, rfl⟩
      go_wp2
      go_ret
      exact ⟨_, rfl, h2.drop.l_nil _ _ _⟩
    | true =>
      rw [if_neg (by simp; omega)]
      rw [hc] at hcar
      clear hm hc
      by_cases k6 : k = 6
      · subst k6
        rw [if_pos rfl]
        go_enter Tryd.func12, Tryd.ntmps12
        go_upto_region 1 with fail
        generalize w.alloc _ = wa at *
        generalize w.heap.size = ga at *
        have c2 := h2.f2.e_c2
        have c1 := h2.f2.e_c1
        have d := h2.cell
        go_wp2_with fail
        refine (hmay wa).mono ?_
        rintro r w1 ⟨rfl, rfl⟩
        go_wp2_with fail
        refine hcar.mono ?_
        rintro r w2 ⟨rfl, rfl⟩
        go_wp2_with fail
        refine (e_told e x 6 inf (by omega) w0 _ _ h2.f2).mono ?_
        rintro r w3 ⟨rfl, h3⟩
        go_wp2_with fail
        refine (e_done e _ w0 _ _ h3).mono ?_
        rintro r w4 ⟨v, rfl, h4⟩
        clear d c1 c2 h2
        go_wp2
        go_ret
        exact ⟨v, rfl, h4.f3.drop⟩
      rw [if_neg k6]
      have b6 : (k == 6) = false := by simpa using k6
      by_cases s4 : x.state = 4
      · rw [if_pos s4]
        go_enter Tryd.func12, Tryd.ntmps12
        go_upto_region 1 with fail
        generalize w.alloc _ = wa at *
        generalize w.heap.size = ga at *
        have c2 := h2.f2.e_c2
        have c1 := h2.f2.e_c1
        rw [s4] at c1
        have d := h2.cell
        go_wp2_with fail
        refine (hmay wa).mono ?_
        rintro r w1 ⟨rfl, rfl⟩
        go_wp2_with fail
        refine hcar.mono ?_
        rintro r w2 ⟨rfl, rfl⟩
        clear s4
        go_wp2_with fail
        refine (e_inAssigned e x ⟨a1, a2, cmd, k, pf, a6, a7, inf⟩ ok (by omega) w0 _ _ h2.f2).mono ?_
        rintro r w3 ⟨rfl, h3⟩
        go_wp2_with fail
        refine (e_done e _ w0 _ _ h3).mono ?_
        rintro r w4 ⟨v, rfl, h4⟩
        clear d c1 c2 h2
        go_wp2
        go_ret
        exact ⟨v, rfl, h4.f3.drop⟩
      rw [if_neg s4]
      by_cases s5 : x.state = 5
      · rw [if_pos s5]
        go_enter Tryd.func12, Tryd.ntmps12
        go_upto_region 1 with fail
        generalize w.alloc _ = wa at *
        generalize w.heap.size = ga at *
        have c2 := h2.f2.e_c2
        have c1 := h2.f2.e_c1
        rw [s5] at c1
        have d := h2.cell
        go_wp2_with fail
        refine (hmay wa).mono ?_
        rintro r w1 ⟨rfl, rfl⟩
        go_wp2_with fail
        refine hcar.mono ?_
        rintro r w2 ⟨rfl, rfl⟩
        clear s5
        go_wp2_with fail
        refine (e_inConnecting e x ⟨a1, a2, cmd, k, pf, a6, a7, inf⟩ ok (by omega) w0 _ _ h2.f2).mono ?_
        rintro r w3 ⟨rfl, h3⟩
        go_wp2_with fail
        refine (e_done e _ w0 _ _ h3).mono ?_
        rintro r w4 ⟨v, rfl, h4⟩
        clear d c1 c2 h2
        go_wp2
        go_ret
        exact ⟨v, rfl, h4.f3.drop⟩
      rw [if_neg s5]
      by_cases s6 : x.state = 6
      · rw [if_pos s6]
        go_enter Tryd.func12, Tryd.ntmps12
        go_upto_region 1 with fail
        generalize w.alloc _ = wa at *
        generalize w.heap.size = ga at *
        have c2 := h2.f2.e_c2
        have c1 := h2.f2.e_c1
        rw [s6] at c1
        have d := h2.cell
        go_wp2_with fail
        refine (hmay wa).mono ?_
        rintro r w1 ⟨rfl, rfl⟩
        go_wp2_with fail
        refine hcar.mono ?_
        rintro r w2 ⟨rfl, rfl⟩
        clear s6
        go_wp2_with fail
        refine (e_inReleasing e x ⟨a1, a2, cmd, k, pf, a6, a7, inf⟩ ok (by omega) w0 _ _ h2.f2).mono ?_
        rintro r w3 ⟨rfl, h3⟩
        go_wp2_with fail
        refine (e_done e _ w0 _ _ h3).mono ?_
        rintro r w4 ⟨v, rfl, h4⟩
        clear d c1 c2 h2
        go_wp2
        go_ret
        exact ⟨v, rfl, h4.f3.drop⟩
      rw [if_neg s6]
      have n4 : (x.state == 4) = false := by simpa using s4
      have n5 : (x.state == 5) = false := by simpa using s5
      have n6 : (x.state == 6) = false := by simpa using s6
      go_enter Tryd.func12, Tryd.ntmps12
      go_upto_region 1 with fail
      generalize w.alloc _ = wa at *
      generalize w.heap.size = ga at *
      have c2 := h2.f2.e_c2
      have c1 := h2.f2.e_c1
      have d := h2.cell
      go_wp2_with fail
      refine (hmay wa).mono ?_
      rintro r w1 ⟨rfl, rfl⟩
      go_wp2_with fail
      refine hcar.mono ?_
      rintro r w2 ⟨rfl, rfl⟩
      go_wp2_with fail
      refine (e_inOpen e x ⟨a1, a2, cmd, k, pf, a6, a7, inf⟩ ok (by omega) (by omega) w0 _ _ h2.f2).mono ?_
      rintro r w3 ⟨rfl, h3⟩
      go_wp2_with fail
      refine (e_done e _ w0 _ _ h3).mono ?_
      rintro r w4 ⟨v, rfl, h4⟩
      clear d c1 c2 h2
      go_wp2
      go_ret
      exact ⟨v, rfl, h4.f3.drop⟩
end Go.Proofs.YtoophfokbioaaaaDoor
