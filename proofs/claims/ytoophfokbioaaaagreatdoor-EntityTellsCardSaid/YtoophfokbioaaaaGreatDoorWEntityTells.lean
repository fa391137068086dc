/- EntityTells: the walk. -/
import Derived.Test.YtoophfokbioaaaaGreatDoorFxEq
import Derived.Test.YtoophfokbioaaaaGreatDoorTellP
import Derived.Test.YtoophfokbioaaaaGreatDoorViewC
namespace Go.Proofs.YtoophfokbioaaaaGreatDoor
open Go.RowKit

set_option maxRecDepth 100000 in
set_option maxHeartbeats 3200000 in
theorem EntityTells.walk (a0 : Option Addr) (len0 cap0 : Nat) (a1 : Array Value) (a2 : Array Value) (w : World) (hN : NamesAt w) (w0 : (Sh.slice acSh).ok w [.slice a0 len0 cap0]) (w1 : Sh.ok w frSh a1.toList) (w2 : Sh.ok w acSh a2.toList) :
    Calls Tryz.prog 4 #[.slice a0 len0 cap0, .agg a1, .agg a2] w fun e w' => e = .returned (.bool true) ∧ Below w.heap.size w w' := by
  obtain ⟨f, hf, _⟩ := fr_of w1
  obtain rfl : a1 = f.cells.toArray := by rw [← hf]
  obtain ⟨b1, b2, cmd, k, pf, ns, nr, inf⟩ := f
  obtain ⟨a, ha, _⟩ := ac_of w2
  obtain rfl : a2 = a.cells.toArray := by rw [← ha]
  obtain ⟨l1, l2, g, l3⟩ := script_fn w0
  clear w0 w1 w2 hf ha
  have hO : ∀ w' (A : HP), St w w' (A * Old w) → NamesAt w' := fun w' A h => hN.old (h.eq (show _ = Old w * A by ac_rfl)).old hN.pos
  have hO5 : ∀ w' (A B C D E : HP), St w w' (A * (B * (C * (D * (E * Old w))))) → NamesAt w' := fun w' A B C D E h => hO w' (A * (B * (C * (D * E)))) (h.eq (by simp only [star_assoc]))
  have hO6 : ∀ w' (A B C D E F : HP), St w w' (A * (B * (C * (D * (E * (F * Old w)))))) → NamesAt w' := fun w' A B C D E F h => hO w' (A * (B * (C * (D * (E * F))))) (h.eq (by simp only [star_assoc]))
  obtain ⟨x, hx⟩ : ∃ x, En.acts g (min len0 60) (newEn 7 3) = x := ⟨_, rfl⟩
  have ok := acts_ok g (newEn 7 3) ⟨ok_new 7 3, rfl⟩ (min len0 60)
  rw [hx] at ok
  obtain ⟨Do, ask, timer, tei, data, ⟨c1, c2, ccmd, ck, cpf, cns, cnr, cinf⟩, near, N, M⟩ := a
  have h1 := ((St.start w).alloc (.cells (Fr.cells ⟨b1, b2, cmd, k, pf, ns, nr, inf⟩).toArray TLf)).alloc (.cells (AcE.cells ⟨Do, ask, timer, tei, data, ⟨c1, c2, ccmd, ck, cpf, cns, cnr, cinf⟩, near, N, M⟩).toArray TAc)
  have hca := l_after 7 3 a0 len0 cap0 g w _ _ l1 l2 l3 hN (h1.eq (star_assoc _ _ _).symm)
  rw [hx] at hca
  have HO := Lib.hid hO5
  have HO6 := Lib.hid hO6
  have OK := Lib.hid ok
  have hl : x.out.length ≤ 95000 := by rw [ok.2]; decide
  have hbad := fun h => And.intro (ask_bad ok.2 ask data h) ((ask_out x ok.2 ask data).2 h)
  have hok2 := ok_ask ok.1 ask data
  have ho2 := (ask_out x ok.2 ask data).1
  have hln2 := ask_len x (by unfold Out; rw [ok.2]; exact Nat.le_refl _) ask data
  have hak := fun e v R h => e_ask e x ask data ok.1.b.fl (Nat.le_trans hl (by decide)) ok.2 w v R h
  generalize x.ask ask data = Y at *
  obtain ⟨y, L, C⟩ := Y
  simp only [] at hbad hok2 ho2 hln2 hak
  have HT := Lib.hid (frame_tells hok2 ho2 ⟨b1, b2, cmd, k, pf, ns, nr, inf⟩)
  have hfl := frame_len y (by unfold Out; rw [ho2]; exact Nat.le_refl _) ⟨b1, b2, cmd, k, pf, ns, nr, inf⟩
  have hly : y.out.length ≤ 95000 := by rw [ho2]; decide
  have hfr := fun e v R hN h => e_frame e y ⟨b1, b2, cmd, k, pf, ns, nr, inf⟩ hok2.b.fl (fun ht => ⟨hok2.tei.1 ht, hok2.s8⟩) hly w v R hN h
  generalize y.frame ⟨b1, b2, cmd, k, pf, ns, nr, inf⟩ = Z at *
  obtain ⟨Z, L2⟩ := Z
  simp only [] at HT hfl hfr
  have hvx := fun e v R h => e_view e x ok.1.b.fl w v R h
  have hvy := fun e v R h => e_view e y hok2.b.fl w v R h
  have HB := Lib.hid hbad
  have HVX := Lib.hid hvx
  have HVY := Lib.hid hvy
  have HF := Lib.hid hfr
  have HA := Lib.hid hak
  clear hN hx l1 l2 l3 hO hO5 hO6 ok hbad hok2 ho2 hl hly hvx hvy hfr hak
  simp only [World.size_alloc] at *
  go_enter Tryz.func4, Tryz.ntmps4
  go_upto_region 1 with fail
  generalize (w.alloc _).alloc _ = wa at *
  generalize w.heap.size = ga at *
  clear h1
  go_wp2_with fail
  refine hca.mono ?_
  rintro q v1 ⟨e, r, l, rfl, h2⟩
  clear hca
  have h3 : St w v1 (EnAt e x * (blk (ga + 1) (.cells (AcE.cells ⟨Do, ask, timer, tei, data, ⟨c1, c2, ccmd, ck, cpf, cns, cnr, cinf⟩, near, N, M⟩).toArray TAc (0, 0)) * (blk ga (.cells (Fr.cells ⟨b1, b2, cmd, k, pf, ns, nr, inf⟩).toArray TLf (0, 0)) * (RnAt r (x.setOut l) * Old w)))) := h2.eq (by ac_rfl)
  clear h2
  have hva := HVX.out e v1 _ h3
  clear h3
  unfold En.view at hva
  go_wp2_with fail
  refine hva.mono ?_
  rintro q v2 ⟨rfl, h4⟩
  clear hva
  have hvb := HVX.out e
  clear HVX
  unfold En.view at hvb
  generalize ((x.fl.q.l.length : Int) - (x.fl.q.sent : Int)) = xl at *
  generalize ((x.fl.q.sent : Nat) : Int) = xq at *
  generalize ((x.units.length : Nat) : Int) = xu at *
  generalize ((x.fl.vs : Nat) : Int) = xvs at *
  generalize ((x.fl.va : Nat) : Int) = xva at *
  generalize ((x.fl.vr : Nat) : Int) = xvr at *
  generalize x.state = xs at *
  generalize x.tei = xt at *
  generalize x.tries = xr at *
  generalize x.asked = xa at *
  generalize x.t2 = x2 at *
  generalize x.t3 = x3 at *
  generalize x.fl.peer = xp at *
  generalize x.fl.own = xo at *
  generalize x.fl.refused = xf at *
  have h5 := h4.alloc (.cells #[.int .i64 xs, .int .i64 xt, .int .i64 xr, .bool xa, .bool x2, .bool x3, .int .i64 xu, .int .i64 xvs, .int .i64 xva, .int .i64 xvr, .bool xp, .bool xo, .bool xf, .int .i64 xq, .int .i64 xl] 43)
  clear h4
  go_upto_region 3 with fail
  generalize v2.alloc _ = v3 at *
  generalize v2.heap.size = gc at *
  have d := h5.f3.cell
  have hc := HA.out e v3 _ h5.f2
  clear HA
  go_wp2_with fail
  refine hc.mono ?_
  rintro q v4 ⟨lv, rfl, h6⟩
  clear hc h5 d
  obtain ⟨la, ca, rfl, _, _⟩ := h6.l_shape
  go_upto_region 4 with fail
  go_cut [44] (fun s wx => s = .bool false ∧ Hid (St w wx (EnAt e y * (blk gc (.cells #[.int .i64 xs, .int .i64 xt, .int .i64 xr, .bool xa, .bool x2, .bool x3, .int .i64 xu, .int .i64 xvs, .int .i64 xva, .int .i64 xvr, .bool xp, .bool xo, .bool xf, .int .i64 xq, .int .i64 xl] 43 (0, 0)) * (blk ga (.cells (Fr.cells ⟨b1, b2, cmd, k, pf, ns, nr, inf⟩).toArray TLf (0, 0)) * (RnAt r (x.setOut l) * Old w))))))
  case first =>
    clear HT HF HVY hfl
    by_cases hC : C = 0
    · subst hC
      have h7 : St w v4 (EnAt e y * (blk gc (.cells #[.int .i64 xs, .int .i64 xt, .int .i64 xr, .bool xa, .bool x2, .bool x3, .int .i64 xu, .int .i64 xvs, .int .i64 xva, .int .i64 xvr, .bool xp, .bool xo, .bool xf, .int .i64 xq, .int .i64 xl] 43 (0, 0)) * (blk ga (.cells (Fr.cells ⟨b1, b2, cmd, k, pf, ns, nr, inf⟩).toArray TLf (0, 0)) * (RnAt r (x.setOut l) * Old w)))) := h6.drop.eq (show _ = blk (ga + 1) _ * _ by ac_rfl) |>.drop
      clear h6 hvb
      have H7 := Lib.hid h7
      clear h7
      go_quiet (fail)
      go_wp2
      go_meet
      exact ⟨rfl, Lib.hid (H7.out.drewN _)⟩
    · have hb := HB.out hC
      obtain ⟨hb1, rfl⟩ := hb
      subst hb1
      have bC : (C == 0) = false := by simpa using hC
      have bC2 : (C != 0) = true := by simpa using hC
      have hgv := env_guard
      have hsv := env_same xs xt xr xu xvs xva xvr xq xl xa x2 x3 xp xo xf
      have d6 := cells_vw h6.drew.f3.cell
      clear HB bC
      go_region_held3 (fun w' => w'.cell? ⟨gc, 0, none⟩ = some (.int .i64 xs) ∧ w'.cell? ⟨gc, 1, none⟩ = some (.int .i64 xt) ∧ w'.cell? ⟨gc, 2, none⟩ = some (.int .i64 xr) ∧ w'.cell? ⟨gc, 3, none⟩ = some (.bool xa) ∧ w'.cell? ⟨gc, 4, none⟩ = some (.bool x2) ∧ w'.cell? ⟨gc, 5, none⟩ = some (.bool x3) ∧ w'.cell? ⟨gc, 6, none⟩ = some (.int .i64 xu) ∧ w'.cell? ⟨gc, 7, none⟩ = some (.int .i64 xvs) ∧ w'.cell? ⟨gc, 8, none⟩ = some (.int .i64 xva) ∧ w'.cell? ⟨gc, 9, none⟩ = some (.int .i64 xvr) ∧ w'.cell? ⟨gc, 10, none⟩ = some (.bool xp) ∧ w'.cell? ⟨gc, 11, none⟩ = some (.bool xo) ∧ w'.cell? ⟨gc, 12, none⟩ = some (.bool xf) ∧ w'.cell? ⟨gc, 13, none⟩ = some (.int .i64 xq) ∧ w'.cell? ⟨gc, 14, none⟩ = some (.int .i64 xl))
        (first | with_reducible exact d6 | with_reducible exact d7)
        (first | (go_at_call 16; refine (hvb _ _ h6.drew.f2).mono ?_; rintro q w7 ⟨rfl, h7⟩; clear d6 h6 hvb; have d7 := cells_vw h7.f3.cell))
      go_wp2
      go_meet
      exact ⟨rfl, Lib.hid ((h7.eq (show _ = LAt TFx 11 Fx.cells _ _ * (blk (ga + 1) _ * (EnAt e _ * (blk gc (.cells #[.int .i64 xs, .int .i64 xt, .int .i64 xr, .bool xa, .bool x2, .bool x3, .int .i64 xu, .int .i64 xvs, .int .i64 xva, .int .i64 xvr, .bool xp, .bool xo, .bool xf, .int .i64 xq, .int .i64 xl] 43 (0, 0)) * (blk ga (.cells (Fr.cells ⟨b1, b2, cmd, k, pf, ns, nr, inf⟩).toArray TLf (0, 0)) * (RnAt r _ * Old w))))) by ac_rfl)).drop.drop)⟩
  case rest =>
    obtain ⟨rfl, hq⟩ := hcut
    clear h6 hvb HB
    have h7 := hq.out
    clear hq
    have d := h7.f3.cell
    go_wp2_with fail
    refine (l_frames ⟨b1, b2, cmd, k, pf, ns, nr, inf⟩ w _ _ h7).mono ?_
    rintro q v5 ⟨rfl, h8⟩
    clear h7 d
    have h9 := (h8.alloc (.cells (Fr.cells ⟨b1, b2, cmd, k, pf, ns, nr, inf⟩).toArray TFr)).alloc (.cells (Fr.cells ⟨b1, b2, cmd, k, pf, ns, nr, inf⟩).toArray 55)
    clear h8
    go_upto_region 7 with fail
    simp only [World.size_alloc] at *
    generalize (v5.alloc _).alloc _ = v6 at *
    generalize v5.heap.size = gz at *
    have h10 := h9.drop.f2
    clear h9
    have hva := HVY.out e v6 _ h10
    have hfy := HF.out e
    have hT := HT.out
    unfold En.view at hva
    unfold TellP at hT
    clear HVY HF HT h10
    generalize ((y.fl.q.l.length : Int) - (y.fl.q.sent : Int)) = yl at *
    generalize ((y.fl.q.sent : Nat) : Int) = yq at *
    generalize ((y.units.length : Nat) : Int) = yu at *
    generalize ((y.fl.vs : Nat) : Int) = yvs at *
    generalize ((y.fl.va : Nat) : Int) = yva at *
    generalize y.tries = yr at *
    generalize y.asked = ya at *
    generalize y.t2 = y2 at *
    generalize y.t3 = y3 at *
    generalize y.fl.peer = yp at *
    generalize y.fl.own = yo at *
    generalize y.fl.refused = yf at *
    obtain ⟨yvr, hyvr⟩ : ∃ v : Int, ((y.fl.vr : Nat) : Int) = v := ⟨_, rfl⟩
    obtain ⟨ys, hys⟩ : ∃ v : Int, y.state = v := ⟨_, rfl⟩
    obtain ⟨yt, hyt⟩ : ∃ v : Int, y.tei = v := ⟨_, rfl⟩
    rw [hyvr, hys, hyt] at hva
    simp only [hyvr, hys, hyt] at hT
    have HT := Lib.hid hT
    clear hyvr hys hyt hT
    go_wp2_with fail
    refine hva.mono ?_
    rintro q v7 ⟨rfl, h11⟩
    clear hva
    have h12 := h11.f3
    clear h11
    have d := h12.cell
    have f := h12.free
    have h13 := h12.view_put (.int .i64 ys) (.int .i64 yt) (.int .i64 yr) (.bool ya) (.bool y2) (.bool y3) (.int .i64 yu) (.int .i64 yvs) (.int .i64 yva) (.int .i64 yvr) (.bool yp) (.bool yo) (.bool yf) (.int .i64 yq) (.int .i64 yl)
    clear h12
    go_upto_region 8 with fail
    generalize ((((((((((((((v7.setCell _ _).setCell _ _).setCell _ _).setCell _ _).setCell _ _).setCell _ _).setCell _ _).setCell _ _).setCell _ _).setCell _ _).setCell _ _).setCell _ _).setCell _ _).setCell _ _).setCell _ _ = v8 at *
    clear d f
    have d := h13.f3.cell
    have hc := hfy v8 _ (HO.out _ _ _ _ _ _ h13) h13.f2
    clear hfy
    go_wp2_with fail
    refine hc.mono ?_
    rintro q v9 ⟨lv, rfl, h14⟩
    clear hc h13 d
    obtain ⟨la, ca, rfl, _, _⟩ := h14.l_shape
    obtain ⟨n, hn⟩ : ∃ n, L2.length = n := ⟨_, rfl⟩
    rw [hn] at h14 hfl ⊢
    have HN := Lib.hid hn
    clear hn
    go_wp2
    go_loopw [56] (fun s wr => ∃ i : Nat, i ≤ n ∧ s = .int .i64 i ∧ St w wr (LAt TFx 11 Fx.cells (.slice la n ca) L2 * (EnAt e Z * (blk gc (.cells #[.int .i64 ys, .int .i64 yt, .int .i64 yr, .bool ya, .bool y2, .bool y3, .int .i64 yu, .int .i64 yvs, .int .i64 yva, .int .i64 yvr, .bool yp, .bool yo, .bool yf, .int .i64 yq, .int .i64 yl] 43 (0, 0)) * (blk gz (.cells (Fr.cells ⟨b1, b2, cmd, k, pf, ns, nr, inf⟩).toArray TFr (0, 0)) * (blk ga (.cells (Fr.cells ⟨b1, b2, cmd, k, pf, ns, nr, inf⟩).toArray TLf (0, 0)) * (RnAt r (x.setOut l) * Old w))))))) (fun s _ => n - (intOf s).toNat)
    case atStart => exact ⟨0, by omega, rfl, h14⟩
    case round =>
      clear h14
      obtain ⟨i, hi, rfl, h15⟩ := hrel
      by_cases hlt : i < n
      · have hil : i < L2.length := by rw [HN.out]; exact hlt
        obtain ⟨z, hz⟩ : ∃ z, L2[i]? = some z := ⟨L2[i], List.getElem?_eq_getElem hil⟩
        obtain ⟨g1, o1, rfl⟩ : ∃ g o, la = some ⟨g, o, none⟩ := by
          rcases h15.l_cells tyFx.len with ⟨h0, _⟩ | ⟨g, o, cp, hv, _⟩
          · rw [h0] at hil; simp at hil
          · simp only [Value.slice.injEq] at hv; exact ⟨g, o, hv.1⟩
        have htl := HT.out z (List.mem_of_getElem? hz)
        have F1 := fx_one h15 i z hz
        unfold FxOne at F1
        obtain ⟨kind, ⟨y1, y2', ycmd, yk, ypf, yns, ynr, yinf⟩, zdata, ztimer⟩ := z
        simp only [] at htl
        obtain ⟨p0, p1, p2, p3, p4, p5, p6, p7, p8, p9, p10⟩ := F1
        have h16 := h15.alloc (.cells (Fx.cells ⟨kind, ⟨y1, y2', ycmd, yk, ypf, yns, ynr, yinf⟩, zdata, ztimer⟩).toArray TFx)
        have hki : (i : Int) < (n : Int) := by omega
        have HTL := Lib.hid htl
        clear hz hil h15 htl
        go_upto_region 11 with fail
        generalize wr.alloc _ = wb at *
        generalize wr.heap.size = gb at *
        clear p0 p1 p2 p3 p4 p5 p6 p7 p8 p9 p10
        have c0 := h16.cell
        have e0 := h16.f4.cell
        have j0 := h16.f6.cell
        have htl := HTL.out
        clear HTL
        by_cases k5 : kind = 5
        · obtain ⟨t1, t2, t3, t4⟩ := htl.1 k5
          subst k5 t2 t3
          have b7 : decide (ys < 7) = false := by simp; omega
          have bn := i64_and127 ns
          rw [t4] at bn
          clear htl t1 t4
          go_wp2
          go_roundw
          case rel => exact ⟨i + 1, by omega, by go_num, h16.drop⟩
          case measure => simp [intOf]; omega
        · have b5 : (kind == 5) = false := by simpa using k5
          by_cases k6 : kind = 6
          · obtain ⟨t1, t2⟩ := htl.2 k6
            subst k6 t2
            have b7 : decide (yt < 0) = false := by simp; omega
            clear htl t1
            go_wp2
            go_roundw
            case rel => exact ⟨i + 1, by omega, by go_num, h16.drop⟩
            case measure => simp [intOf]; omega
          · have b6 : (kind == 6) = false := by simpa using k6
            clear htl k5 k6
            go_wp2
            go_roundw
            case rel => exact ⟨i + 1, by omega, by go_num, h16.drop⟩
            case measure => simp [intOf]; omega
      · have hwk := en_wakes w wr _ (fun w' h => HO6.out w' _ _ _ _ _ _ h) h15
        go_wp2_with fail
        refine hwk.mono ?_
        rintro q v10 ⟨rfl, h17⟩
        go_wp2
        go_ret
        exact ⟨rfl, h17.drop.drop.drop.drop.drop.drop.old0⟩
end Go.Proofs.YtoophfokbioaaaaGreatDoor
