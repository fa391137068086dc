/- SourceGives: the walk. -/
import Derived.Test.YtbnbknabedgpcaaGivesD
import Derived.Test.YtbnbknabedgpcaaWSourceNil
namespace Go.Proofs.Ytbnbknabedgpcaa
open Go.RowKit


set_option maxRecDepth 100000 in
set_option maxHeartbeats 3200000 in
theorem SourceGives.walk (a0 : Option Addr) (len0 cap0 : Nat) (w : World) (w0 : (Sh.slice SASh).ok w [.slice a0 len0 cap0]) :
    Calls Try.prog 12 #[.slice a0 len0 cap0] w fun e w' => e = .returned (.bool true) ∧ Below w.heap.size w w' := by
  obtain ⟨l1, l2, l3⟩ := sa_script w0
  unfold maxLen at l2
  clear w0
  have hmm := @run_makeMap Try.prog
  go_enter Try.func12, Try.ntmps12
  go_wp2_with fail
  refine (so_new w w _ (St.start w)).mono ?_
  rintro e w1 ⟨s, rfl, h1⟩
  have h2 := (((h1.map_new kInt vBool).map_new kInt vBool).alloc (.cells #[.map (some w1.heap.size)] 93)).alloc (.cells #[.map (some (w1.heap.size + 1))] 93)
  simp only [World.size_alloc] at h2
  have h3 : St w _ (SAt s ⟨DP 0, []⟩ * (bvC (w1.heap.size + 1 + 1) w1.heap.size * (bvC (w1.heap.size + 1 + 1 + 1) (w1.heap.size + 1) * (MAt kInt vBool w1.heap.size [] * (MAt kInt vBool (w1.heap.size + 1) [] * Old w))))) := h2.eq (by unfold bvC; ac_rfl)
  go_upto_region 4 with fail
  clear h1 h2 hmm
  obtain ⟨wz, hwz⟩ : ∃ wz, (((w1.alloc (Obj.map #[] 0)).alloc (Obj.map #[] 0)).alloc (Obj.cells #[Value.map (some w1.heap.size)] 93)).alloc (Obj.cells #[Value.map (some (w1.heap.size + 1))] 93) = wz := ⟨_, rfl⟩
  rw [hwz] at h3 ⊢
  clear hwz
  generalize w1.heap.size + 1 + 1 + 1 = g2 at *
  generalize w1.heap.size + 1 + 1 = g1 at *
  generalize w1.heap.size + 1 = rb at *
  generalize w1.heap.size = ob at *
  go_cut [26, 27, 28] (fun s33 s34 s35 wx => ∃ m : Nat, m ≤ len0 ∧ m ≤ 100 ∧ s33 = .slice a0 m cap0 ∧ s34 = .int .i64 m ∧ s35 = .int .i64 0 ∧ wz = wx)
  case first =>
    go_wp2
    all_goals (go_meet; first | exact ⟨len0, Nat.le_refl _, by omega, rfl, rfl, rfl, rfl⟩ | exact ⟨100, by omega, by omega, rfl, rfl, rfl, rfl⟩ | (refine ⟨(min (len0 : Int) 100).toNat, by omega, by omega, ?_, ?_, rfl, rfl⟩ <;> (first | rfl | (congr 1; omega) | trace_state)))
  case rest =>
    obtain ⟨m, hm, hm100, rfl, rfl, rfl, rfl⟩ := hcut
    go_wp2
    go_loopw [28] (fun i wr => ∃ (k : Nat) (x : Sr) (on runs : BM), k ≤ m ∧ i = .int .i64 k ∧ Hid (Gv x (Tl.of on runs)) ∧ Hid (∀ p ∈ runs, p.2 = true) ∧ St w wr (SAt s x * (bvC g1 ob * (bvC g2 rb * (MAt kInt vBool ob on * (MAt kInt vBool rb runs * Old w)))))) (fun i _ => m - (intOf i).toNat)
    case atStart => exact ⟨0, _, [], [], by omega, rfl, Lib.hid Gv.nil, Lib.hid (by simp), h3⟩
    case round =>
      clear h3
      obtain ⟨k, x, on, runs, hk, rfl, HG, HP, h4⟩ := hrel
      by_cases hlt : k < m
      · obtain ⟨b, off, rfl, hb, hi⟩ := l3 (by omega)
        obtain ⟨y, yok, c0, c1, c2, c3, c4⟩ := hi k (by omega)
        obtain ⟨yd, yt, yr, ya, yo⟩ := y
        simp only [] at c0 c1 c2 c3 c4
        have hbel := (h4.drop.drop.drop.drop.drop).old0
        have d0 := (hbel.cell (p := ⟨b, off + k * 5, none⟩) hb).trans c0
        have d1 := (hbel.cell (p := ⟨b, off + k * 5 + 1, none⟩) hb).trans c1
        have d2 := (hbel.cell (p := ⟨b, off + k * 5 + 2, none⟩) hb).trans c2
        have d3 := (hbel.cell (p := ⟨b, off + k * 5 + 3, none⟩) hb).trans c3
        have d4 := (hbel.cell (p := ⟨b, off + k * 5 + 4, none⟩) hb).trans c4
        clear hi l3 c0 c1 c2 c3 c4 hbel
        have h5 := h4.alloc (.cells #[.int .i64 yd, .int .i64 yt, .int .i64 yr, .int .i64 ya, .int .i64 yo] 80)
        go_upto_block 2 with fail
        generalize wr.alloc _ = wa at *
        generalize wr.heap.size = ga at *
        have hka := yok.1
        simp only [] at hka
        have e0 := h5.cell
        clear d0 d1 d2 d3 d4 h4
        go_cut [9] (fun s9 wx => ∃ (x' : Sr) (l : List Ef) (on' runs' : BM) (st : Tl), Hid (Gv x' st) ∧ Hid (Tl.all l (Tl.of on' runs') = some st) ∧ Hid (∀ p ∈ runs', p.2 = true) ∧ Hid (EOk l) ∧ St w wx (EAt s9 l * (SAt s x' * (bvC g1 ob * (bvC g2 rb * (MAt kInt vBool ob on' * (MAt kInt vBool rb runs' * Old w)))))))
        case first =>
          have m2 : wa.cell? ⟨g2, 0, none⟩ = some (.map (some rb)) := h5.f4.cell 0
          have h5r := h5.eq (show _ = MAt kInt vBool rb runs * (blk ga _ * (SAt s x * (bvC g1 ob * (bvC g2 rb * (MAt kInt vBool ob on * Old w))))) by ac_rfl)
          go_wp2_with (at_delete; refine wp_mdel rfl (.tmp 67) (.tmp 69) 93 3 rfl tyBM h5r rfl ya rfl hka ?_; intro w5 h7; have c7 := h7.f2.cell)
          · refine (so_check s x ya _ _ _ h5.f2 HG.out.ok hka).mono ?_
            rintro e w5 ⟨v, rfl, h6⟩
            obtain ⟨st, hst, hgv⟩ := HG.out.check ya
            go_wp2
            go_meet
            exact ⟨_, _, on, runs, st, hgv, hst, HP.out, EOk.check x ya hka, h6.f3.drop⟩
          · refine (so_check s x ya _ _ _ h5.f2 HG.out.ok hka).mono ?_
            rintro e w5 ⟨v, rfl, h6⟩
            obtain ⟨st, hst, hgv⟩ := HG.out.check ya
            go_wp2
            go_meet
            exact ⟨_, _, on, runs, st, hgv, hst, HP.out, EOk.check x ya hka, h6.f3.drop⟩
          · refine (so_audit s x _ _ _ h5.f2 HG.out.ok.on).mono ?_
            rintro e w5 ⟨v, rfl, h6⟩
            obtain ⟨st, hst, hgv⟩ := HG.out.audit
            go_wp2
            go_meet
            exact ⟨_, _, on, runs, st, hgv, hst, HP.out, EOk.audit x, h6.f3.drop⟩
          · refine (so_audit s x _ _ _ h5.f2 HG.out.ok.on).mono ?_
            rintro e w5 ⟨v, rfl, h6⟩
            obtain ⟨st, hst, hgv⟩ := HG.out.audit
            go_wp2
            go_meet
            exact ⟨_, _, on, runs, st, hgv, hst, HP.out, EOk.audit x, h6.f3.drop⟩
          · refine (so_removeP s x ya _ _ _ h5.f2 HG.out.ok hka).mono ?_
            rintro e w5 ⟨v, rfl, h6⟩
            obtain ⟨st, hst, hgv⟩ := HG.out.removeP ya
            go_wp2
            go_meet
            exact ⟨_, _, on, runs, st, hgv, hst, HP.out, EOk.removeP x ya hka, h6.f3.drop⟩
          · refine (so_removeP s x ya _ _ _ h5.f2 HG.out.ok hka).mono ?_
            rintro e w5 ⟨v, rfl, h6⟩
            obtain ⟨st, hst, hgv⟩ := HG.out.removeP ya
            go_wp2
            go_meet
            exact ⟨_, _, on, runs, st, hgv, hst, HP.out, EOk.removeP x ya hka, h6.f3.drop⟩
          · refine (so_timeout s x ya _ _ _ h7.f3 HG.out.ok hka).mono ?_
            rintro e w6 ⟨v, rfl, h8⟩
            obtain ⟨st, hst, hgv⟩ := HG.out.timeout ya
            have hnr := h5r.map_nodup
            have hst2 : Tl.all (x.timeout ya).2 (Tl.of on (mdel runs ya)) = some st := by unfold Tl.of; rw [bOf_del hnr]; exact hst
            go_wp2
            go_meet
            exact ⟨_, _, on, mdel runs ya, st, hgv, hst2, fun p hp => HP.out p ((mdel_sublist _).subset hp), EOk.timeout x ya hka, (h8.f4.drop).eq (by ac_rfl)⟩
          · refine (so_timeout s x ya _ _ _ h7.f3 HG.out.ok hka).mono ?_
            rintro e w6 ⟨v, rfl, h8⟩
            obtain ⟨st, hst, hgv⟩ := HG.out.timeout ya
            have hnr := h5r.map_nodup
            have hst2 : Tl.all (x.timeout ya).2 (Tl.of on (mdel runs ya)) = some st := by unfold Tl.of; rw [bOf_del hnr]; exact hst
            go_wp2
            go_meet
            exact ⟨_, _, on, mdel runs ya, st, hgv, hst2, fun p hp => HP.out p ((mdel_sublist _).subset hp), EOk.timeout x ya hka, (h8.f4.drop).eq (by ac_rfl)⟩
          · refine (sn_made yd yt yr ya yo h5).mono ?_
            rintro e w5 ⟨rfl, h7⟩
            go_wp2_with fail
            refine (so_message s x ⟨yt, yr, ya⟩ _ _ _ h7.f2 HG.out.ok).mono ?_
            rintro e w6 ⟨v, rfl, h6⟩
            obtain ⟨st, hst, hgv⟩ := HG.out.message ⟨yt, yr, ya⟩
            go_wp2
            go_meet
            exact ⟨_, _, on, runs, st, hgv, hst, HP.out, EOk.message x ⟨yt, yr, ya⟩ hka, h6.f3.drop⟩
        case rest =>
          obtain ⟨x', l, on', runs', st, HG', HA, HP', HE, h6⟩ := hcut
          have hE := HE.out
          have h6' := h6.eq (show _ = EAt u9 l * (bvC g1 ob * (bvC g2 rb * (MAt kInt vBool ob on' * (MAt kInt vBool rb runs' * (SAt s x' * Old w))))) by ac_rfl)
          clear h5 e0 h6
          go_wp2_with fail
          refine (look1 g1 g2 ob rb l on' runs' st _ w _ _ (by have := hE.1; omega) hE.2 HA.out HP'.out h6').mono ?_
          rintro e w5 ⟨rfl, on2, runs2, hst, hp2, h7⟩
          have hG2 : Gv x' (Tl.of on2 runs2) := by rw [hst]; exact HG'.out
          have h8 := h7.drop.eq (show _ = SAt s x' * (bvC g1 ob * (bvC g2 rb * (MAt kInt vBool ob on2 * (MAt kInt vBool rb runs2 * Old w)))) by ac_rfl)
          have HG2 := Lib.hid hG2
          have HP2 := Lib.hid hp2
          clear h6' h7 hE hst hG2 hp2
          go_wp2_with fail
          refine (so_list s x' _ _ _ h8 HG2.out.ok.on).mono ?_
          rintro e w6 ⟨v, rfl, h9⟩
          obtain ⟨ks, hkse⟩ : ∃ ks, x'.pool.upto 63 = ks := ⟨_, rfl⟩
          have hkl : ks.length ≤ 63 := by rw [← hkse]; exact upto_len x'.pool 63
          have hon : ∀ i ∈ ks, i < 63 ∧ bOf on2 (64 + (i : Int)) = true := fun i hi => by
            rw [← hkse] at hi
            exact ⟨upto_lt hi, (HG2.out.on _).trans (upto_has hi)⟩
          have hall : heldOf on2 (on2.map (·.1)) = ks.length := by
            rw [← hkse]
            exact held_all HG2.out h8.f4.map_nodup
          have hnon := h8.f4.map_nodup
          have hrl : runs2.length = x'.checks.length := runs_len HG2.out h8.f5.map_nodup HP2.out
          rw [hkse] at h9
          obtain ⟨N, hN⟩ : ∃ N, ks.length = N := ⟨_, rfl⟩
          obtain ⟨av, cv, rfl, _, _⟩ := h9.row_shape
          rw [hN] at h9 hkl hall
          rw [hN]
          have HN := Lib.hid hN
          have HON := Lib.hid hon
          have HALL := Lib.hid hall
          have HNON := Lib.hid hnon
          have HRL := Lib.hid hrl
          clear hkse hon hall hN h8 hnon hrl
          go_wp2
          go_loopw [10, 81] (fun s10 i w2 => ∃ j : Nat, j ≤ N ∧ s10 = .int .i64 j ∧ i = .int .i64 j ∧ St w w2 (Row 3 1 (.slice av N cv) N (teis ks) * (SAt s x' * (bvC g1 ob * (bvC g2 rb * (MAt kInt vBool ob on2 * (MAt kInt vBool rb runs2 * Old w))))))) (fun _ i _ => N - (intOf i).toNat)
          case atStart => exact ⟨0, by omega, rfl, rfl, h9⟩
          case round =>
            clear h9
            obtain ⟨j, hj, rfl, rfl, h9⟩ := hrel
            have m1 : wr.cell? ⟨g1, 0, none⟩ = some (.map (some ob)) := h9.f3.cell 0
            by_cases hj2 : j < N
            · have hN := HN.out
              obtain ⟨i, hi⟩ : ∃ i, ks[j]? = some i := ⟨_, List.getElem?_eq_getElem (by omega)⟩
              obtain ⟨hi1, hi2⟩ := HON.out i (List.mem_of_getElem? hi)
              have hl := h9.f5.bm (64 + (i : Int)) (kok _ (by omega) (by omega))
              rw [hi2] at hl
              rcases h9.row with ⟨_, _, h0, _⟩ | ⟨g, off, cap, cur, hv, _, _, _, _, _⟩
              · omega
              simp only [Value.slice.injEq] at hv
              obtain ⟨rfl, _, rfl⟩ := hv
              have d0 := h9.row_cell j (by omega)
              rw [show (teis ks)[j]? = some (.int .i64 (64 + (i : Int))) by simp [teis, hi]] at d0
              have H9 := Lib.hid h9
              clear hi hN hi2 h9
              go_wp2
              go_roundw
              case rel => exact ⟨j + 1, by omega, by go_num, by go_num, H9.out⟩
              case measure => simp [intOf]; omega
            · have hjn : j = N := by omega
              subst hjn
              have h10 := h9.drop.eq (show _ = MAt kInt vBool ob on2 * (SAt s x' * (bvC g1 ob * (bvC g2 rb * (MAt kInt vBool rb runs2 * Old w)))) by ac_rfl)
              clear h9
              go_wp2_with (at_range; refine wp_mrange rfl (.tmp 92) 93 rfl tyBM.ht h10 rfl ?_; intro w7 r h11)
              go_frame
              go_loopw [13] (fun s13 wr => ∃ (left : List Int) (hd : Nat), s13 = .int .i64 hd ∧ left.Nodup ∧ hd + heldOf on2 left = j ∧ St w wr (RAt kInt vBool ob r on2 left * (SAt s x' * (bvC g1 ob * (bvC g2 rb * (MAt kInt vBool rb runs2 * Old w)))))) (fun _ wr => wr.rangeLeft ob r)
              case atStart => exact ⟨_, 0, rfl, HNON.out, by rw [HALL.out]; omega, h11⟩
              case round =>
                clear h10 h11
                obtain ⟨left, hd, rfl, hnd, hsum, h11⟩ := hrel
                have meas : ∀ (y : Int) (w8 : World), y ∈ left → St w w8 (RAt kInt vBool ob r on2 (left.filter fun z => decide (z ≠ y)) * (SAt s x' * (bvC g1 ob * (bvC g2 rb * (MAt kInt vBool rb runs2 * Old w))))) → w8.rangeLeft ob r < wr.rangeLeft ob r := by
                  intro y w8 hx h12
                  rw [h11.rmap_left, h12.rmap_left]
                  exact List.length_filter_lt_length_iff_exists.2 ⟨y, hx, by simp⟩
                have MS := Lib.hid meas
                have HND := Lib.hid hnd
                have HSUM := Lib.hid hsum
                have hw1 : IntKind.i64.wrap ((hd : Int) + 1) = (hd : Int) + 1 := by rw [IntKind.wrap_i64]; omega
                clear meas hnd hsum m1
                go_wp2_with (at_next; refine wp_mnext rfl (.tmp 93) rfl h11 rfl ?done ?more; (case' done => (intro hl0; subst hl0; have H12 := Lib.hid h11.rmap_end; clear h11)); (case' more => (intro y b w8 hx hv h12 hen0; have hen : (Instr.entry (.pointer (some ⟨r, 0, none⟩))).run Try.prog w8 = .ok (.tuple #[.int .i64 y, .bool b]) w8 := hen0; have m1 : w8.cell? ⟨g1, 0, none⟩ = some (.map (some ob)) := h12.f3.cell 0; have hbo : bOf on2 y = b := by {unfold bOf; rw [hv]; rfl}; have hl := h12.rmap_end.bm y (h12.rmap.1 _ (mlook_mem hv)); rw [hbo] at hl; have hst := held_step (on := on2) HND.out hx; rw [hbo] at hst; have HM := Lib.hid (MS.out y w8 hx h12); have HST := Lib.hid hst; have H12 := Lib.hid h12; clear h12 h11 hx hv hen0 hst hbo)))
                all_goals first
                  | (refine ⟨?_, HM.out⟩
                     have h1 := HST.out
                     have h2 := HSUM.out
                     have h3 := (List.filter_sublist (p := fun z => decide (z ≠ y)) (l := left)).nodup HND.out
                     first
                       | (rw [if_pos (by assumption)] at h1; exact ⟨_, hd + 1, by go_num, h3, by omega, H12.out⟩)
                       | (rw [if_neg (by simp_all)] at h1; exact ⟨_, hd, rfl, h3, by omega, H12.out⟩))
                  | skip
                have hdj : hd = j := by have := HSUM.out; simpa [heldOf] using this
                subst hdj
                clear HALL HNON HSUM HND MS HON
                refine (so_checks s x' _ _ _ H12.out.f2 (by have := checks_len HG2.out.ok HG2.out.nd; omega)).mono ?_
                rintro e w8 ⟨vc, rfl, h13⟩
                have hcl := chks_len x'
                rw [← HRL.out] at hcl
                have hcl2 := checks_len HG2.out.ok HG2.out.nd
                rw [← HRL.out] at hcl2
                obtain ⟨M, hM⟩ : ∃ M, runs2.length = M := ⟨_, rfl⟩
                rw [hM] at hcl hcl2
                obtain ⟨ac, cc, rfl, _, _⟩ := h13.l_shape
                rw [hcl] at h13
                rw [hcl]
                have hln : ∀ ty, (Builtin.len_ #[93] ty #[.map (some rb)]).run Try.prog w8 = .ok (.int .i64 M) w8 := fun ty => by
                  have := (h13.eq (show _ = MAt kInt vBool rb runs2 * (LAt TC 3 Chk.cells (.slice ac M cc) x'.chks * (SAt s x' * (MAt kInt vBool ob on2 * (bvC g1 ob * (bvC g2 rb * Old w))))) by ac_rfl)).map_len tyBM.ht ty
                  rw [hM] at this
                  exact this
                have m2 : w8.cell? ⟨g2, 0, none⟩ = some (.map (some rb)) := h13.f5.cell 0
                have HCL := Lib.hid hcl
                clear hcl hM H12 HRL HN
                go_wp2
                go_loopw [117] (fun i w2 => ∃ q : Nat, q ≤ M ∧ i = .int .i64 q ∧ St w w2 (LAt TC 3 Chk.cells (.slice ac M cc) x'.chks * (SAt s x' * (MAt kInt vBool ob on2 * (bvC g1 ob * (bvC g2 rb * (MAt kInt vBool rb runs2 * Old w))))))) (fun i _ => M - (intOf i).toNat)
                case atStart => exact ⟨0, by omega, rfl, h13⟩
                case round =>
                  clear h13 hln m2
                  obtain ⟨q, hq, rfl, h13⟩ := hrel
                  by_cases hq2 : q < M
                  · have hcl := HCL.out
                    obtain ⟨c, hc⟩ : ∃ c, x'.chks[q]? = some c := ⟨_, List.getElem?_eq_getElem (by omega)⟩
                    obtain ⟨f1, f2, f3, f4, f5, f6⟩ := chk_of HG2.out (List.mem_of_getElem? hc)
                    obtain ⟨ct, ck, cn⟩ := c
                    simp only [] at f1 f2 f3 f4 f5 f6
                    rcases h13.l_cells tyCk.len with ⟨h0, _⟩ | ⟨g, off2, cap, hv, _, _, hcell⟩
                    · rw [h0] at hc; simp at hc
                    simp only [Value.slice.injEq] at hv
                    obtain ⟨rfl, hq', rfl⟩ := hv
                    clear hq'
                    have d0 : wr.cell? ⟨g, off2 + q * 3, none⟩ = some (.int .i64 ct) := hcell _ _ hc 0 _ rfl
                    have d1 : wr.cell? ⟨g, off2 + q * 3 + 1, none⟩ = some (.int .i64 ck) := hcell _ _ hc 1 _ rfl
                    have d2 : wr.cell? ⟨g, off2 + q * 3 + 2, none⟩ = some (.int .i64 cn) := hcell _ _ hc 2 _ rfl
                    have h14 := h13.alloc (.cells #[.int .i64 ct, .int .i64 ck, .int .i64 cn] 91)
                    have H13 := Lib.hid h13
                    clear hcell hc hcl h13
                    go_upto_region 45 with fail
                    generalize wr.alloc _ = w9 at *
                    generalize wr.heap.size = gc at *
                    have k0 : w9.cell? ⟨gc, 0, none⟩ = some (.int .i64 ct) := h14.cell 0
                    have k1 : w9.cell? ⟨gc, 1, none⟩ = some (.int .i64 ck) := h14.cell 1
                    have k2 : w9.cell? ⟨gc, 2, none⟩ = some (.int .i64 cn) := h14.cell 2
                    have m1 : w9.cell? ⟨g1, 0, none⟩ = some (.map (some ob)) := h14.f5.cell 0
                    have m2 : w9.cell? ⟨g2, 0, none⟩ = some (.map (some rb)) := h14.drop.f5.cell 0
                    have lon := h14.f4.bm ct f3
                    have lru := h14.drop.drop.f5.bm ct f3
                    rw [f1] at lon
                    rw [f2] at lru
                    have b1 : decide (cn > 1) = false := by simp; omega
                    have b2 : decide (ck < 1) = false := by simp; omega
                    have b3 : decide (ck > 2) = false := by simp; omega
                    have b4 : decide (1 < cn) = false := by simp; omega
                    have b5 : decide (2 < ck) = false := by simp; omega
                    have H14 := Lib.hid h14.drop
                    clear h14 d0 d1 d2 f1 f2 f3
                    go_wp2
                    go_roundw
                    case rel => exact ⟨q + 1, by omega, by go_num, H14.out⟩
                    case measure => simp [intOf]; omega
                  · go_wp2
                    go_roundw
                    case rel => exact ⟨k + 1, x', on2, runs2, by omega, by go_num, HG2, HP2.out, h13.drop.eq (by ac_rfl)⟩
                    case measure => simp [intOf]; omega
      · go_wp2_with fail
        refine (so_wakes _ _ _ h4).mono ?_
        rintro e w5 ⟨rfl, h5⟩
        go_wp2
        go_ret
        exact ⟨rfl, h5.drop.drop.drop.drop.drop.old0⟩
end Go.Proofs.Ytbnbknabedgpcaa
