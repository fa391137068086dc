/- SourcePlays: the walk. -/
import Derived.Test.YtbnbknabedgpcaaPlaysP
namespace Go.Proofs.Ytbnbknabedgpcaa
open Go.RowKit

set_option maxRecDepth 100000 in
set_option maxHeartbeats 3200000 in
theorem SourcePlays.walk (a0 : Option Addr) (len0 cap0 : Nat) (w : World) (w0 : (Sh.slice SASh).ok w [.slice a0 len0 cap0]) :
    Calls Try.prog 11 #[.slice a0 len0 cap0] w fun e w' => e = .returned (.bool true) ∧ Below w.heap.size w w' := by
  obtain ⟨l1, l2, l3⟩ := sa_script w0
  unfold maxLen at l2
  clear w0
  go_enter Try.func11, Try.ntmps11
  go_wp2_with fail
  refine (so_new w w _ (St.start w)).mono ?_
  rintro e w1 ⟨s, rfl, h1⟩
  go_wp2_with fail
  refine (rs_new w w1 _ h1).mono ?_
  rintro e w2 ⟨r, rfl, h2⟩
  go_wp2_with fail
  refine (so_wakes w w2 _ h2).mono ?_
  rintro e w3 ⟨rfl, h3x⟩
  have h3 : St w w3 (SAt s ⟨DP 0, []⟩ * (SR r ⟨DP 0, []⟩ [] * Old w)) := h3x.f2
  clear h1 h2 h3x
  go_upto_region 4 with fail
  go_cut [23, 24, 25] (fun s33 s34 s35 wx => ∃ m : Nat, m ≤ len0 ∧ m ≤ 60 ∧ s33 = .slice a0 m cap0 ∧ s34 = .int .i64 m ∧ s35 = .int .i64 0 ∧ w3 = wx)
  case first =>
    go_wp2
    all_goals (go_meet; first | exact ⟨len0, Nat.le_refl _, by omega, rfl, rfl, rfl, rfl⟩ | exact ⟨60, by omega, by omega, rfl, rfl, rfl, rfl⟩ | (refine ⟨(min (len0 : Int) 60).toNat, by omega, by omega, ?_, ?_, rfl, rfl⟩ <;> (first | rfl | (congr 1; omega))))
  case rest =>
    obtain ⟨m, hm, hm60, rfl, rfl, rfl, rfl⟩ := hcut
    go_wp2
    go_loopw [25] (fun i wr => ∃ (k : Nat) (x : Sr) (l0 : List Ef), k ≤ m ∧ i = .int .i64 k ∧ Hid (Gk x) ∧ St w wr (SAt s x * (SR r x l0 * Old w))) (fun i _ => m - (intOf i).toNat)
    case atStart => exact ⟨0, _, [], by omega, rfl, Lib.hid ⟨_, Gv.nil⟩, h3⟩
    case round =>
      clear h3
      obtain ⟨k, x, l0, hk, rfl, HG, h4⟩ := hrel
      by_cases hlt : k < m
      · obtain ⟨b, off, rfl, hb, hi⟩ := l3 (by omega)
        obtain ⟨y, yok, c0, c1, c2, c3, c4⟩ := hi k (by omega)
        obtain ⟨yd, yt, yr, ya, yo⟩ := y
        simp only [] at c0 c1 c2 c3 c4
        have hbel := (h4.drop.drop).old0
        have d0 := (hbel.cell (p := ⟨b, off + k * 5, none⟩) hb).trans c0
        have d1 := (hbel.cell (p := ⟨b, off + k * 5 + 1, none⟩) hb).trans c1
        have d2 := (hbel.cell (p := ⟨b, off + k * 5 + 2, none⟩) hb).trans c2
        have d3 := (hbel.cell (p := ⟨b, off + k * 5 + 3, none⟩) hb).trans c3
        have d4 := (hbel.cell (p := ⟨b, off + k * 5 + 4, none⟩) hb).trans c4
        clear hi l3 c0 c1 c2 c3 c4 hbel
        have h5 := h4.alloc (.cells #[.int .i64 yd, .int .i64 yt, .int .i64 yr, .int .i64 ya, .int .i64 yo] 80)
        go_upto_region 7 with fail
        generalize wr.alloc _ = wa at *
        generalize wr.heap.size = ga at *
        have hka := yok.1
        have hyo := yok.2.2.2.2
        simp only [] at hka hyo
        have e0 := h5.cell
        clear d0 d1 d2 d3 d4 h4 yok
        go_wp2_with fail
        refine (so_act s r x l0 yd yt yr ya yo hka hyo HG.out w _ _ h5.f2.m2).mono ?_
        rintro e w5 ⟨rfl, x', l', hg, h6⟩
        have HG2 := Lib.hid hg
        have on := hg.ok.on
        clear e0 h5 HG hka hyo hg
        obtain ⟨p, v2, h7⟩ := h6.f2.sr_open
        obtain ⟨c, hc⟩ : ∃ c, chkN x'.checks = c := ⟨_, rfl⟩
        rw [hc] at h7
        have HC := Lib.hid hc
        clear h6 hc
        have e0 := (h7.cell 0).trans (sc_p _ _ _)
        go_upto_region 9 with fail
        go_region_held3 (fun w' => w'.cell? ⟨r, 0, none⟩ = some (ptr p)) (first | exact e0 | exact e1 | exact e2) (first | (go_at_call 17; refine (so_list s x' w _ _ h7.drew.f4 on).mono ?_; rintro e w6 ⟨v, rfl, h8⟩; have e1 := (h8.f3.cell 0).trans (sc_p _ _ _)) | (go_at_call 37; refine (ph_list p x'.pool w _ _ h8.f4).mono ?_; rintro e w7 ⟨u, rfl, h9⟩; have e2 := (h9.f5.cell 0).trans (sc_p _ _ _)))
        obtain ⟨ks, hkse⟩ : ∃ ks, x'.pool.upto 63 = ks := ⟨_, rfl⟩
        have hkl : ks.length ≤ 63 := by rw [← hkse]; exact upto_len x'.pool 63
        rw [hkse] at h9
        obtain ⟨N, hN⟩ : ∃ N, ks.length = N := ⟨_, rfl⟩
        rw [hN] at h9 hkl
        obtain ⟨au, cu, rfl, _, _⟩ := h9.row_shape
        obtain ⟨av, cv, rfl, _, _⟩ := h9.f3.row_shape
        have h10 := h9.eq (show _ = Row 3 1 (.slice av N cv) N (teis ks) * (Row 3 1 (.slice au N cu) N (teis ks) * (blk r (.cells (sc p c v2) TS15 (0, 0)) * (SAt s x' * (PR p x'.pool * (LAt TE15 5 Ef.cells v2 l' * (blk ga (.cells #[.int .i64 yd, .int .i64 yt, .int .i64 yr, .int .i64 ya, .int .i64 yo] 80 (0, 0)) * Old w)))))) by ac_rfl)
        have HN := Lib.hid hN
        have q5 : ((N : Int) != (N : Int)) = false := by simp
        clear hkse hN h7 h8 h9 e0 e1 e2
        go_wp2
        go_loopw [48] (fun i wr => ∃ j : Nat, j ≤ N ∧ i = .int .i64 j ∧ St w wr (Row 3 1 (.slice av N cv) N (teis ks) * (Row 3 1 (.slice au N cu) N (teis ks) * (blk r (.cells (sc p c v2) TS15 (0, 0)) * (SAt s x' * (PR p x'.pool * (LAt TE15 5 Ef.cells v2 l' * (blk ga (.cells #[.int .i64 yd, .int .i64 yt, .int .i64 yr, .int .i64 ya, .int .i64 yo] 80 (0, 0)) * Old w)))))))) (fun i _ => N - (intOf i).toNat)
        case atStart => exact ⟨0, by omega, rfl, h10⟩
        case round =>
          clear h10
          obtain ⟨j, hj, rfl, h10⟩ := hrel
          by_cases hlj : j < N
          · obtain ⟨t, ht⟩ : ∃ t, (teis ks)[j]? = some (.int .i64 t) := by
              obtain ⟨i, hi⟩ : ∃ i, ks[j]? = some i := ⟨_, List.getElem?_eq_getElem (by rw [HN.out]; exact hlj)⟩
              exact ⟨64 + (i : Int), by simp [teis, hi]⟩
            rcases h10.row with ⟨_, _, h0, _⟩ | ⟨g1, o1, cap, cur, hv, _, _, _, _, _⟩
            · omega
            simp only [Value.slice.injEq] at hv
            obtain ⟨rfl, hq1, rfl⟩ := hv
            rcases h10.f2.row with ⟨_, _, h0, _⟩ | ⟨g2, o2, cap, cur, hv, _, _, _, _, _⟩
            · omega
            simp only [Value.slice.injEq] at hv
            obtain ⟨rfl, hq2, rfl⟩ := hv
            clear hq1 hq2
            have d0 := (h10.row_cell j (by omega)).trans ht
            have d1 := (h10.f2.row_cell j (by omega)).trans ht
            have q1 : (t != t) = false := by simp
            have hji : (j : Int) < (N : Int) := by omega
            have H10 := Lib.hid h10
            clear ht h10
            go_upto_region 15 with fail
            go_quiet (fail)
            go_wp2
            go_roundw
            case rel => exact ⟨j + 1, by omega, by go_num, H10.out.drewN _⟩
            case measure => simp [intOf]; omega
          · have h11 := h10.drop.drop
            clear h10
            go_wp2
            go_loopw [10, 61] (fun s10 i wr => ∃ q : Nat, q ≤ 128 ∧ s10 = .int .i64 (cntC c q) ∧ i = .int .i64 q ∧ St w wr (blk r (.cells (sc p c v2) TS15 (0, 0)) * (SAt s x' * (PR p x'.pool * (LAt TE15 5 Ef.cells v2 l' * (blk ga (.cells #[.int .i64 yd, .int .i64 yt, .int .i64 yr, .int .i64 ya, .int .i64 yo] 80 (0, 0)) * Old w)))))) (fun _ i _ => 128 - (intOf i).toNat)
            case atStart => exact ⟨0, by omega, rfl, rfl, h11⟩
            case round =>
              clear h11
              obtain ⟨q, hq, rfl, rfl, h11⟩ := hrel
              by_cases hlq : q < 128
              · have d0 := (h11.cell (1 + q * 2)).trans (sc_a _ _ _ hlq)
                have hs := cntC_succ c q
                have hle := cntC_le c q
                obtain ⟨z, hz⟩ : ∃ z, (c q).1 = z := ⟨_, rfl⟩
                rw [hz] at d0 hs
                obtain ⟨n0, hn0⟩ : ∃ n0, cntC c q = n0 := ⟨_, rfl⟩
                rw [hn0] at hs hle ⊢
                have HS := Lib.hid hs
                have H11 := Lib.hid h11
                have hqi : (q : Int) < 128 := by omega
                have hq0 : (0 : Int) ≤ (q : Int) := by omega
                clear hs h11 hz hn0
                by_cases hpos : 0 < z
                · have b1 : decide (z > 0) = true := by simpa using hpos
                  have b2 : decide (0 < z) = true := by simpa using hpos
                  go_wp2
                  go_roundw
                  case rel => exact ⟨q + 1, by omega, by rw [HS.out, if_pos hpos]; go_num, by go_num, H11.out⟩
                  case measure => simp [intOf]; omega
                · have b1 : decide (z > 0) = false := by simpa using hpos
                  have b2 : decide (0 < z) = false := by simpa using hpos
                  go_wp2
                  go_roundw
                  case rel => exact ⟨q + 1, by omega, by rw [HS.out, if_neg hpos]; go_num, by go_num, H11.out⟩
                  case measure => simp [intOf]; omega
              · obtain rfl : q = 128 := by omega
                have hrs := HG2.out.rs
                have hM0 := cntC_all hrs
                have hcl := chks_len x'
                have hcl2 := checks_len hrs.ok hrs.nd
                rw [← hM0] at hcl hcl2
                rw [HC.out] at hM0 hcl hcl2
                obtain ⟨M, hM⟩ : ∃ M, cntC c 128 = M := ⟨_, rfl⟩
                rw [hM] at hM0 hcl hcl2 ⊢
                have hml : x'.checks.length ≤ 1000000 := by omega
                have HCL := Lib.hid hcl
                have HRS := Lib.hid hrs
                clear hcl hM hM0 hrs hlq hq
                have H11 := Lib.hid h11.f2
                clear h11
                go_wp2_with fail
                refine (so_checks s x' w _ _ H11.out hml).mono ?_
                rintro e w8 ⟨vc, rfl, h13⟩
                obtain ⟨ac, cc, rfl, _, _⟩ := h13.l_shape
                rw [HCL.out] at h13 ⊢
                have q6 : ((M : Int) != (M : Int)) = false := by simp
                clear H11 hml
                go_wp2
                go_loopw [83] (fun i wr => ∃ q : Nat, q ≤ M ∧ i = .int .i64 q ∧ St w wr (LAt TC 3 Chk.cells (.slice ac M cc) x'.chks * (SAt s x' * (blk r (.cells (sc p c v2) TS15 (0, 0)) * (PR p x'.pool * (LAt TE15 5 Ef.cells v2 l' * (blk ga (.cells #[.int .i64 yd, .int .i64 yt, .int .i64 yr, .int .i64 ya, .int .i64 yo] 80 (0, 0)) * Old w))))))) (fun i _ => M - (intOf i).toNat)
                case atStart => exact ⟨0, by omega, rfl, h13⟩
                case round =>
                  clear h13
                  obtain ⟨q, hq, rfl, h13⟩ := hrel
                  by_cases hq2 : q < M
                  · obtain ⟨cx, hcx⟩ : ∃ c, x'.chks[q]? = some c := ⟨_, List.getElem?_eq_getElem (by rw [HCL.out]; exact hq2)⟩
                    obtain ⟨i, hi1, hi2, hi3⟩ := chk_at HRS.out hcx
                    rw [HC.out] at hi3
                    obtain ⟨ct, ck, cn⟩ := cx
                    simp only [] at hi2 hi3
                    subst hi2
                    rcases h13.l_cells tyCk.len with ⟨h0, _⟩ | ⟨g, off2, cap, hv, _, _, hcell⟩
                    · rw [h0] at hcx; simp at hcx
                    simp only [Value.slice.injEq] at hv
                    obtain ⟨rfl, hq', rfl⟩ := hv
                    clear hq'
                    have d0 : wr.cell? ⟨g, off2 + q * 3, none⟩ = some (.int .i64 i) := hcell _ _ hcx 0 _ rfl
                    have d1 : wr.cell? ⟨g, off2 + q * 3 + 1, none⟩ = some (.int .i64 ck) := hcell _ _ hcx 1 _ rfl
                    have d2 : wr.cell? ⟨g, off2 + q * 3 + 2, none⟩ = some (.int .i64 cn) := hcell _ _ hcx 2 _ rfl
                    have h14 := h13.alloc (.cells #[.int .i64 i, .int .i64 ck, .int .i64 cn] 91)
                    clear hcell hcx h13
                    go_upto_region 31 with fail
                    generalize wr.alloc _ = w9 at *
                    generalize wr.heap.size = gc at *
                    have k0 : w9.cell? ⟨gc, 0, none⟩ = some (.int .i64 i) := h14.cell 0
                    have k1 : w9.cell? ⟨gc, 1, none⟩ = some (.int .i64 ck) := h14.cell 1
                    have k2 : w9.cell? ⟨gc, 2, none⟩ = some (.int .i64 cn) := h14.cell 2
                    have hia := (h14.f4.cell (1 + i * 2)).trans (sc_a _ _ _ hi1)
                    have hin := (h14.f4.cell (1 + i * 2 + 1)).trans (sc_n _ _ _ hi1)
                    rw [hi3] at hia hin
                    simp only [] at hia hin
                    have hand := and127 hi1
                    have hii : (i : Int) < 128 := by omega
                    have hi0 : (0 : Int) ≤ (i : Int) := by omega
                    have q1 : (ck != ck) = false := by simp
                    have q2 : (cn != cn) = false := by simp
                    have H14 := Lib.hid h14.drop
                    clear h14 d0 d1 d2 hi3
                    go_quiet (fail)
                    go_wp2
                    go_roundw
                    case rel => exact ⟨q + 1, by omega, by go_num, H14.out.drewN _⟩
                    case measure => simp [intOf]; omega
                  · have h15 : St w wr (SR r x' l' * (SAt s x' * Old w)) := ((h13.drop.eq (show _ = blk ga _ * (blk r (.cells (sc p c v2) TS15 (0, 0)) * (PR p x'.pool * (LAt TE15 5 Ef.cells v2 l' * (SAt s x' * Old w)))) by ac_rfl)).drop).sr_shut HC.out.symm rfl
                    clear h13
                    go_wp2
                    go_roundw
                    case rel => exact ⟨k + 1, x', l', by omega, by go_num, HG2, h15.f2⟩
                    case measure => simp [intOf]; omega
      · go_wp2
        go_ret
        exact ⟨rfl, h4.drop.drop.old0⟩
end Go.Proofs.Ytbnbknabedgpcaa
