/- SourceStrays: the walk. -/
import Derived.Test.YtbnbknabedgpcaaWSourceDenies
import Derived.Test.YtbnbknabedgpcaaSrcE
namespace Go.Proofs.Ytbnbknabedgpcaa
open Go.RowKit

theorem DP_has (n : Nat) (hn : n ≤ 63) (t : Int) : (DP n).has t = decide (64 ≤ t ∧ t < 64 + (n : Int)) := by
  have key : ∀ (i j : Fin 64), (DP i).on.testBit j = decide ((j : Nat) < i) := by decide +kernel
  unfold Pl.has
  by_cases h : 64 ≤ t ∧ t ≤ 126
  · have := key ⟨n, by omega⟩ ⟨t.toNat - 64, by omega⟩
    simp only [] at this
    rw [this]
    simp [h]
    omega
  · rw [decide_eq_false h]
    simp
    omega

def assignedP (n : Nat) (t : Int) : Prop := 64 ≤ t ∧ t < 64 + (n : Int)
def strayP (n : Nat) (t : Int) : Prop := 64 + (n : Int) ≤ t ∧ t ≤ 126
theorem chks_len (x : Sr) : x.chks.length = x.checks.length := by
  unfold Sr.chks
  rw [List.length_map, (List.mergeSort_perm _ _).length_eq, List.length_map]

theorem stray_of {n : Nat} {t : Int} {c : List (Int × Chk)} (hn : n ≤ 63) (h : strayP n t) : Sr.stray ⟨DP n, c⟩ t = [.said 6 0 t] := by
  unfold strayP at h
  unfold Sr.stray kindOf
  rw [if_neg]
  rintro (h1 | h1)
  · apply h1
    rw [if_neg (by omega), if_neg (by omega), if_pos (by omega)]
  · rw [DP_has n hn] at h1
    simp at h1
    omega
theorem stray_not {n : Nat} {t : Int} {c : List (Int × Chk)} (hn : n ≤ 63) (h : ¬ strayP n t) : Sr.stray ⟨DP n, c⟩ t = [] := by
  unfold strayP at h
  unfold Sr.stray
  rw [if_pos]
  by_cases h1 : kindOf t = 2
  · right
    rw [DP_has n hn]
    have h2 : 64 ≤ t ∧ t ≤ 126 := by
      unfold kindOf at h1
      split at h1
      · omega
      · split at h1
        · omega
        · split at h1
          · omega
          · omega
    simp
    omega
  · exact .inl h1

theorem stray_msg (n : Nat) (t k : Int) (hn : n ≤ 63) (h1 : 0 ≤ t) (h2 : t ≤ 127) (hk : k = 5 ∨ k = 7) :
    ∃ c l, Sr.message ⟨DP n, []⟩ ⟨k, 3, t⟩ = (⟨DP n, c⟩, l) ∧ (strayP n t → l = [.said 6 0 t] ∧ c = []) ∧ (¬ strayP n t → (assignedP n t ∧ k = 7) → l.length = 2 ∧ c.length = 1) ∧ (¬ strayP n t → ¬ (assignedP n t ∧ k = 7) → l = [] ∧ c = []) := by
  have hb : Msg.bad ⟨k, 3, t⟩ = 0 := by
    unfold Msg.bad
    simp only []
    rw [if_neg (by omega), if_neg (by omega)]
    repeat' split
    all_goals first | rfl | omega
  unfold Sr.message
  rw [hb, if_neg (by simp)]
  rcases hk with rfl | rfl
  · rw [if_neg (by simp), if_pos rfl]
    have e : Sr.response ⟨DP n, []⟩ t = (⟨DP n, []⟩, Sr.stray ⟨DP n, []⟩ t) := rfl
    simp only []
    rw [e]
    refine ⟨[], _, rfl, fun h => ⟨stray_of hn h, rfl⟩, fun _ h => by omega, fun h _ => ⟨stray_not hn h, rfl⟩⟩
  · rw [if_neg (by simp), if_neg (by simp), if_pos rfl]
    simp only []
    by_cases ha : assignedP n t
    · have hh : (DP n).has t = true := by rw [DP_has n hn]; unfold assignedP at ha; simpa using ha
      have e : Sr.check ⟨DP n, []⟩ t = ((Sr.ask ⟨DP n, []⟩ t).1, (Sr.ask ⟨DP n, []⟩ t).2, 0) := by
        unfold Sr.check
        simp [hh, mlook]
      rw [e, if_pos rfl]
      have hs : ¬ strayP n t := by unfold strayP; unfold assignedP at ha; omega
      exact ⟨_, _, rfl, fun h => absurd h hs, fun _ _ => ⟨rfl, rfl⟩, fun _ h => absurd ⟨ha, by trivial⟩ h⟩
    · have hh : (DP n).has t = false := by rw [DP_has n hn]; unfold assignedP at ha; simpa using ha
      have e : Sr.check ⟨DP n, []⟩ t = (⟨DP n, []⟩, [], 11) := by
        unfold Sr.check
        simp [hh]
      rw [e, if_neg (by simp)]
      exact ⟨[], _, rfl, fun h => ⟨stray_of hn h, rfl⟩, fun _ h => absurd h.1 ha, fun h _ => ⟨stray_not hn h, rfl⟩⟩


theorem DP_list' (n : Nat) (hn : n ≤ 63) : ((DP n).upto 63).length = n := by rw [DP_list]; omega

set_option maxRecDepth 100000 in
set_option maxHeartbeats 3200000 in
theorem SourceStrays.walk (a0 : Int) (a1 : Int) (a2 : Bool) (w : World) (_w0 : (Lit.int .i64 a0).wf = true) (_w1 : (Lit.int .i64 a1).wf = true) :
    Calls Try.prog 9 #[.int .i64 a0, .int .i64 a1, .bool a2] w fun e w' => e = .returned (.bool true) ∧ Below w.heap.size w w' := by
  have hEq := msg_eq
  have hGd := msg_guard
  go_enter Try.func9, Try.ntmps9
  go_wp2_with fail
  refine (so_new w w _ (St.start w)).mono ?_
  rintro e w1 ⟨s, rfl, h1⟩
  go_upto_region 2 with fail
  go_cut [0] (fun s0 wx => ∃ n : Nat, n ≤ 63 ∧ s0 = .int .i64 n ∧ w1 = wx)
  case first =>
    by_cases ha : 0 < a0
    · go_wp2
      go_meet
      exact ⟨(a0 % 64).toNat, by omega, by congr 1; omega, rfl⟩
    · go_wp2
      go_meet
      exact ⟨0, by omega, by congr 1; omega, rfl⟩
  case rest =>
    obtain ⟨n, hn, rfl, rfl⟩ := hcut
    go_wp2
    go_loopw [17] (fun i wr => ∃ (k : Nat), k ≤ n ∧ i = .int .i64 k ∧ Sr.Ok ⟨DP k, []⟩ ∧ St w wr (SAt s ⟨DP k, []⟩ * Old w)) (fun i _ => n - (intOf i).toNat)
    case atStart => exact ⟨0, by omega, rfl, Sr.Ok.new, h1⟩
    case round =>
      clear h1
      obtain ⟨k, hk, rfl, ok, h2⟩ := hrel
      by_cases hlt : k < n
      · have e := den_one k (by omega) [] 1 (by omega) (by omega)
        have ok' := ok.message ⟨1, 1, 127⟩
        rw [e] at ok'
        simp only [] at ok'
        have E := Lib.hid e
        clear e
        go_wp2_with fail
        refine (so_message_to h2 ok E.out).mono ?_
        rintro e w3 ⟨v3, rfl, h3⟩
        clear h2
        go_wp2
        go_roundw
        case rel => exact ⟨k + 1, by omega, by go_num, ok', h3.drop⟩
        case measure => simp [intOf]; omega
      · obtain rfl : n = k := by omega
        go_upto_region 7 with fail
        go_cut [1] (fun s1 wx => ∃ t : Int, 0 ≤ t ∧ t ≤ 127 ∧ s1 = .int .i64 t ∧ wr = wx)
        case first =>
          by_cases ha : 0 < a1
          · go_wp2
            go_meet
            exact ⟨a1 % 128, by omega, by omega, by congr 1; omega, rfl⟩
          · go_wp2
            go_meet
            exact ⟨0, by omega, by omega, by congr 1; omega, rfl⟩
        case rest =>
          obtain ⟨t, ht1, ht2, rfl, rfl⟩ := hcut
          have hw : IntKind.i64.wrap (64 + (n : Int)) = 64 + (n : Int) := by rw [IntKind.wrap_i64]; omega
          clear hlt hk
          cases a2 with
          | true =>
            obtain ⟨c, l, e, hA, hB, hC⟩ := stray_msg n t 7 hn ht1 ht2 (by simp)
            have ok' := ok.message ⟨7, 3, t⟩
            rw [e] at ok'
            simp only [] at ok'
            have E := Lib.hid e
            clear e
            go_wp2_with fail
            refine (so_message_to h2 ok E.out).mono ?_
            rintro e w5 ⟨v, rfl, h4⟩
            clear h2
            by_cases hs : strayP n t
            · obtain ⟨hl, hc⟩ := hA hs
              have hln : l.length = 1 := by rw [hl]; rfl
              have hcn : c.length = 0 := by rw [hc]; rfl
              have HL := Lib.hid hl
              unfold strayP at hs
              have b1 : decide ((64 : Int) ≤ t) = true := by simp; omega
              have b2 : decide (t < 64 + (n : Int)) = false := by simp; omega
              have b3 : decide (64 + (n : Int) ≤ t) = true := by simp; omega
              have b4 : decide (t ≤ 126) = true := by simp; omega
              clear hA hB hC hl hc
              go_wp2_with fail
              refine (so_wakes w _ _ h4).mono ?_
              rintro e w6 ⟨rfl, h5⟩
              clear h4
              go_wp2_with fail
              refine (so_list s ⟨DP n, c⟩ w _ _ h5.f2 ok'.on).mono ?_
              rintro e w7 ⟨vl, rfl, h6⟩
              simp only [DP_list' n hn] at h6
              obtain ⟨al, cl, rfl, _, _⟩ := h6.row_shape
              clear h5
              go_wp2_with fail
              refine (so_checks s ⟨DP n, c⟩ w _ _ h6.f2 (by simp only [hcn]; omega)).mono ?_
              rintro e w8 ⟨vc, rfl, h7⟩
              have s7 := h7.l_shape
              rw [chks_len] at s7
              simp only [hcn] at s7
              obtain ⟨ac, cc, rfl, _, _⟩ := s7
              clear h6
              have s8 := h7.f4.l_shape
              simp only [hln] at s8
              obtain ⟨av, cv, rfl, _, _⟩ := s8
              have hl := HL.out
              subst hl
              rcases h7.f4.l_cells tyEf.len with ⟨h0, _⟩ | ⟨g, off, cp, hv, _, _, hcell⟩
              · cases h0
              simp only [Value.slice.injEq] at hv
              obtain ⟨rfl, hq, rfl⟩ := hv
              clear hq
              have d1 : w8.cell? ⟨g, off + 1 + 1, none⟩ = some (.int .i64 0) := hcell 0 _ rfl 2 _ rfl
              have d2 : w8.cell? ⟨g, off + 1, none⟩ = some (.int .i64 6) := hcell 0 _ rfl 1 _ rfl
              have d3 : w8.cell? ⟨g, off + 1 + 2, none⟩ = some (.int .i64 t) := hcell 0 _ rfl 3 _ rfl
              have H7 := Lib.hid h7
              have q1 : (t == t) = true := by simp
              have q2 : ((n : Int) != (n : Int)) = false := by simp
              clear hcell h7
              go_wp2
              go_ret
              exact ⟨by first | rfl | simp, H7.out.drop.drop.drop.drop.old0⟩
            · by_cases hb : assignedP n t
              · obtain ⟨hln, hcn⟩ := hB hs ⟨hb, by trivial⟩
                unfold assignedP at hb
                have b1 : decide ((64 : Int) ≤ t) = true := by simp; omega
                have b2 : decide (t < 64 + (n : Int)) = true := by simp; omega
                have b3 : decide (64 + (n : Int) ≤ t) = false := by simp; omega
                clear hA hB hC hs hb
                go_wp2_with fail
                refine (so_wakes w _ _ h4).mono ?_
                rintro e w6 ⟨rfl, h5⟩
                clear h4
                go_wp2_with fail
                refine (so_list s ⟨DP n, c⟩ w _ _ h5.f2 ok'.on).mono ?_
                rintro e w7 ⟨vl, rfl, h6⟩
                simp only [DP_list' n hn] at h6
                obtain ⟨al, cl, rfl, _, _⟩ := h6.row_shape
                clear h5
                go_wp2_with fail
                refine (so_checks s ⟨DP n, c⟩ w _ _ h6.f2 (by simp only [hcn]; omega)).mono ?_
                rintro e w8 ⟨vc, rfl, h7⟩
                have s7 := h7.l_shape
                rw [chks_len] at s7
                simp only [hcn] at s7
                obtain ⟨ac, cc, rfl, _, _⟩ := s7
                clear h6
                have s8 := h7.f4.l_shape
                simp only [hln] at s8
                obtain ⟨av, cv, rfl, _, _⟩ := s8
                have H7 := Lib.hid h7
                have q2 : ((n : Int) != (n : Int)) = false := by simp
                clear h7
                go_wp2
                go_ret
                exact ⟨by first | rfl | simp, H7.out.drop.drop.drop.drop.old0⟩
              · obtain ⟨hl, hc⟩ := hC hs (fun h => hb h.1)
                have hln : l.length = 0 := by rw [hl]; rfl
                have hcn : c.length = 0 := by rw [hc]; rfl
                unfold assignedP at hb
                unfold strayP at hs
                by_cases ht : t < 64
                · have b1 : decide ((64 : Int) ≤ t) = false := by simp; omega
                  have b3 : decide (64 + (n : Int) ≤ t) = false := by simp; omega
                  clear hA hB hC hs hb
                  go_wp2_with fail
                  refine (so_wakes w _ _ h4).mono ?_
                  rintro e w6 ⟨rfl, h5⟩
                  clear h4
                  go_wp2_with fail
                  refine (so_list s ⟨DP n, c⟩ w _ _ h5.f2 ok'.on).mono ?_
                  rintro e w7 ⟨vl, rfl, h6⟩
                  simp only [DP_list' n hn] at h6
                  obtain ⟨al, cl, rfl, _, _⟩ := h6.row_shape
                  clear h5
                  go_wp2_with fail
                  refine (so_checks s ⟨DP n, c⟩ w _ _ h6.f2 (by simp only [hcn]; omega)).mono ?_
                  rintro e w8 ⟨vc, rfl, h7⟩
                  have s7 := h7.l_shape
                  rw [chks_len] at s7
                  simp only [hcn] at s7
                  obtain ⟨ac, cc, rfl, _, _⟩ := s7
                  clear h6
                  have s8 := h7.f4.l_shape
                  simp only [hln] at s8
                  obtain ⟨av, cv, rfl, _, _⟩ := s8
                  have H7 := Lib.hid h7
                  have q2 : ((n : Int) != (n : Int)) = false := by simp
                  clear h7
                  go_wp2
                  go_ret
                  exact ⟨by first | rfl | simp, H7.out.drop.drop.drop.drop.old0⟩
                · have b1 : decide ((64 : Int) ≤ t) = true := by simp; omega
                  have b2 : decide (t < 64 + (n : Int)) = false := by simp; omega
                  have b3 : decide (64 + (n : Int) ≤ t) = true := by simp; omega
                  have b4 : decide (t ≤ 126) = false := by simp; omega
                  clear hA hB hC hs hb
                  go_wp2_with fail
                  refine (so_wakes w _ _ h4).mono ?_
                  rintro e w6 ⟨rfl, h5⟩
                  clear h4
                  go_wp2_with fail
                  refine (so_list s ⟨DP n, c⟩ w _ _ h5.f2 ok'.on).mono ?_
                  rintro e w7 ⟨vl, rfl, h6⟩
                  simp only [DP_list' n hn] at h6
                  obtain ⟨al, cl, rfl, _, _⟩ := h6.row_shape
                  clear h5
                  go_wp2_with fail
                  refine (so_checks s ⟨DP n, c⟩ w _ _ h6.f2 (by simp only [hcn]; omega)).mono ?_
                  rintro e w8 ⟨vc, rfl, h7⟩
                  have s7 := h7.l_shape
                  rw [chks_len] at s7
                  simp only [hcn] at s7
                  obtain ⟨ac, cc, rfl, _, _⟩ := s7
                  clear h6
                  have s8 := h7.f4.l_shape
                  simp only [hln] at s8
                  obtain ⟨av, cv, rfl, _, _⟩ := s8
                  have H7 := Lib.hid h7
                  have q2 : ((n : Int) != (n : Int)) = false := by simp
                  clear h7
                  go_wp2
                  go_ret
                  exact ⟨by first | rfl | simp, H7.out.drop.drop.drop.drop.old0⟩
          | false =>
            obtain ⟨c, l, e, hA, hB, hC⟩ := stray_msg n t 5 hn ht1 ht2 (by simp)
            have ok' := ok.message ⟨5, 3, t⟩
            rw [e] at ok'
            simp only [] at ok'
            have E := Lib.hid e
            clear e
            go_wp2_with fail
            refine (so_message_to h2 ok E.out).mono ?_
            rintro e w5 ⟨v, rfl, h4⟩
            clear h2
            by_cases hs : strayP n t
            · obtain ⟨hl, hc⟩ := hA hs
              have hln : l.length = 1 := by rw [hl]; rfl
              have hcn : c.length = 0 := by rw [hc]; rfl
              have HL := Lib.hid hl
              unfold strayP at hs
              have b1 : decide ((64 : Int) ≤ t) = true := by simp; omega
              have b2 : decide (t < 64 + (n : Int)) = false := by simp; omega
              have b3 : decide (64 + (n : Int) ≤ t) = true := by simp; omega
              have b4 : decide (t ≤ 126) = true := by simp; omega
              clear hA hB hC hl hc
              go_wp2_with fail
              refine (so_wakes w _ _ h4).mono ?_
              rintro e w6 ⟨rfl, h5⟩
              clear h4
              go_wp2_with fail
              refine (so_list s ⟨DP n, c⟩ w _ _ h5.f2 ok'.on).mono ?_
              rintro e w7 ⟨vl, rfl, h6⟩
              simp only [DP_list' n hn] at h6
              obtain ⟨al, cl, rfl, _, _⟩ := h6.row_shape
              clear h5
              go_wp2_with fail
              refine (so_checks s ⟨DP n, c⟩ w _ _ h6.f2 (by simp only [hcn]; omega)).mono ?_
              rintro e w8 ⟨vc, rfl, h7⟩
              have s7 := h7.l_shape
              rw [chks_len] at s7
              simp only [hcn] at s7
              obtain ⟨ac, cc, rfl, _, _⟩ := s7
              clear h6
              have s8 := h7.f4.l_shape
              simp only [hln] at s8
              obtain ⟨av, cv, rfl, _, _⟩ := s8
              have hl := HL.out
              subst hl
              rcases h7.f4.l_cells tyEf.len with ⟨h0, _⟩ | ⟨g, off, cp, hv, _, _, hcell⟩
              · cases h0
              simp only [Value.slice.injEq] at hv
              obtain ⟨rfl, hq, rfl⟩ := hv
              clear hq
              have d1 : w8.cell? ⟨g, off + 1 + 1, none⟩ = some (.int .i64 0) := hcell 0 _ rfl 2 _ rfl
              have d2 : w8.cell? ⟨g, off + 1, none⟩ = some (.int .i64 6) := hcell 0 _ rfl 1 _ rfl
              have d3 : w8.cell? ⟨g, off + 1 + 2, none⟩ = some (.int .i64 t) := hcell 0 _ rfl 3 _ rfl
              have H7 := Lib.hid h7
              have q1 : (t == t) = true := by simp
              have q2 : ((n : Int) != (n : Int)) = false := by simp
              clear hcell h7
              go_wp2
              go_ret
              exact ⟨by first | rfl | simp, H7.out.drop.drop.drop.drop.old0⟩
            · by_cases hb : assignedP n t
              · obtain ⟨hl, hc⟩ := hC hs (fun h => by simp at h)
                have hln : l.length = 0 := by rw [hl]; rfl
                have hcn : c.length = 0 := by rw [hc]; rfl
                unfold assignedP at hb
                have b1 : decide ((64 : Int) ≤ t) = true := by simp; omega
                have b2 : decide (t < 64 + (n : Int)) = true := by simp; omega
                have b3 : decide (64 + (n : Int) ≤ t) = false := by simp; omega
                clear hA hB hC hs hb
                go_wp2_with fail
                refine (so_wakes w _ _ h4).mono ?_
                rintro e w6 ⟨rfl, h5⟩
                clear h4
                go_wp2_with fail
                refine (so_list s ⟨DP n, c⟩ w _ _ h5.f2 ok'.on).mono ?_
                rintro e w7 ⟨vl, rfl, h6⟩
                simp only [DP_list' n hn] at h6
                obtain ⟨al, cl, rfl, _, _⟩ := h6.row_shape
                clear h5
                go_wp2_with fail
                refine (so_checks s ⟨DP n, c⟩ w _ _ h6.f2 (by simp only [hcn]; omega)).mono ?_
                rintro e w8 ⟨vc, rfl, h7⟩
                have s7 := h7.l_shape
                rw [chks_len] at s7
                simp only [hcn] at s7
                obtain ⟨ac, cc, rfl, _, _⟩ := s7
                clear h6
                have s8 := h7.f4.l_shape
                simp only [hln] at s8
                obtain ⟨av, cv, rfl, _, _⟩ := s8
                have H7 := Lib.hid h7
                have q2 : ((n : Int) != (n : Int)) = false := by simp
                clear h7
                go_wp2
                go_ret
                exact ⟨by first | rfl | simp, H7.out.drop.drop.drop.drop.old0⟩
              · obtain ⟨hl, hc⟩ := hC hs (fun h => hb h.1)
                have hln : l.length = 0 := by rw [hl]; rfl
                have hcn : c.length = 0 := by rw [hc]; rfl
                unfold assignedP at hb
                unfold strayP at hs
                by_cases ht : t < 64
                · have b1 : decide ((64 : Int) ≤ t) = false := by simp; omega
                  have b3 : decide (64 + (n : Int) ≤ t) = false := by simp; omega
                  clear hA hB hC hs hb
                  go_wp2_with fail
                  refine (so_wakes w _ _ h4).mono ?_
                  rintro e w6 ⟨rfl, h5⟩
                  clear h4
                  go_wp2_with fail
                  refine (so_list s ⟨DP n, c⟩ w _ _ h5.f2 ok'.on).mono ?_
                  rintro e w7 ⟨vl, rfl, h6⟩
                  simp only [DP_list' n hn] at h6
                  obtain ⟨al, cl, rfl, _, _⟩ := h6.row_shape
                  clear h5
                  go_wp2_with fail
                  refine (so_checks s ⟨DP n, c⟩ w _ _ h6.f2 (by simp only [hcn]; omega)).mono ?_
                  rintro e w8 ⟨vc, rfl, h7⟩
                  have s7 := h7.l_shape
                  rw [chks_len] at s7
                  simp only [hcn] at s7
                  obtain ⟨ac, cc, rfl, _, _⟩ := s7
                  clear h6
                  have s8 := h7.f4.l_shape
                  simp only [hln] at s8
                  obtain ⟨av, cv, rfl, _, _⟩ := s8
                  have H7 := Lib.hid h7
                  have q2 : ((n : Int) != (n : Int)) = false := by simp
                  clear h7
                  go_wp2
                  go_ret
                  exact ⟨by first | rfl | simp, H7.out.drop.drop.drop.drop.old0⟩
                · have b1 : decide ((64 : Int) ≤ t) = true := by simp; omega
                  have b2 : decide (t < 64 + (n : Int)) = false := by simp; omega
                  have b3 : decide (64 + (n : Int) ≤ t) = true := by simp; omega
                  have b4 : decide (t ≤ 126) = false := by simp; omega
                  clear hA hB hC hs hb
                  go_wp2_with fail
                  refine (so_wakes w _ _ h4).mono ?_
                  rintro e w6 ⟨rfl, h5⟩
                  clear h4
                  go_wp2_with fail
                  refine (so_list s ⟨DP n, c⟩ w _ _ h5.f2 ok'.on).mono ?_
                  rintro e w7 ⟨vl, rfl, h6⟩
                  simp only [DP_list' n hn] at h6
                  obtain ⟨al, cl, rfl, _, _⟩ := h6.row_shape
                  clear h5
                  go_wp2_with fail
                  refine (so_checks s ⟨DP n, c⟩ w _ _ h6.f2 (by simp only [hcn]; omega)).mono ?_
                  rintro e w8 ⟨vc, rfl, h7⟩
                  have s7 := h7.l_shape
                  rw [chks_len] at s7
                  simp only [hcn] at s7
                  obtain ⟨ac, cc, rfl, _, _⟩ := s7
                  clear h6
                  have s8 := h7.f4.l_shape
                  simp only [hln] at s8
                  obtain ⟨av, cv, rfl, _, _⟩ := s8
                  have H7 := Lib.hid h7
                  have q2 : ((n : Int) != (n : Int)) = false := by simp
                  clear h7
                  go_wp2
                  go_ret
                  exact ⟨by first | rfl | simp, H7.out.drop.drop.drop.drop.old0⟩
end Go.Proofs.Ytbnbknabedgpcaa
