/- The entity's laws: an act, walked. The entity's laws: a script. -/
import Derived.Test.YtoophfokbioaaaaGreatDoorLawI
import Derived.Test.YtoophfokbioaaaaGreatDoorLawG
import Derived.Test.YtoophfokbioaaaaGreatDoorEntX
namespace Go.Proofs.YtoophfokbioaaaaGreatDoor
open Go.RowKit

set_option maxRecDepth 100000 in
set_option maxHeartbeats 3200000 in
theorem l_act (e r : Nat) (x : En) (l : List Fx) (a : AcE) (ok : x.Ok) (ho : x.out = []) (wf : a.Wf) (w0 w : World) (R : HP) (hN : ∀ w' (A : HP), St w0 w' (A * R) → NamesAt w') (h : St w0 w (EnAt e x * (RnAt r (x.setOut l) * R))) :
    Calls Tryz.prog 14 #[ptr e, ptr r, .agg a.cells.toArray] w fun q w' => q = .returned (.bool true) ∧ St w0 w' (EnAt e (x.act a).1 * (RnAt r ((x.act a).1.setOut (x.act a).2.1) * R)) := by
  have hd0 := act_d0 x a
  have hd2 := act_d2 x a
  have hd3 := act_d3 x a
  have hd4 := act_d4 x a
  have hdx := act_dx x a
  have hal := act_len x ho ok.b.un a
  have hao := act_out x ho a
  have hff := fun w R h => l_frameOf r (x.setOut l) a ok.b.fl w0 w R h
  have hfe : a.frame (x.setOut l) = a.frame x := rfl
  have hx0 : (x.setOut l).setOut [] = x := setOut_self ho
  obtain ⟨f, hf⟩ : ∃ f, a.frame x = f := ⟨_, rfl⟩
  rw [hfe, hf] at hff
  rw [hf] at hdx
  have ht := wf.timer
  clear wf hfe hf
  obtain ⟨X, hX⟩ : ∃ X, x.act a = X := ⟨_, rfl⟩
  rw [hX] at hd0 hd2 hd3 hd4 hdx hal hao |-
  clear hX
  obtain ⟨Do, ask, timer, tei, data, ⟨a1, a2, cmd, k, pf, ns, nr, inf⟩, near, N, M⟩ := a
  have h1 := h.alloc (.cells (AcE.cells ⟨Do, ask, timer, tei, data, ⟨a1, a2, cmd, k, pf, ns, nr, inf⟩, near, N, M⟩).toArray TAc)
  simp only [] at hd0 hd2 hd3 hd4 hdx ht
  obtain ⟨d, hd⟩ : ∃ d, Do.tmod 6 = d := ⟨_, rfl⟩
  rw [hd] at hd0 hd2 hd3 hd4 hdx
  clear h
  have D0 := Lib.hid hd0
  have D2 := Lib.hid hd2
  have D3 := Lib.hid hd3
  have D4 := Lib.hid hd4
  have DX := Lib.hid hdx
  have AL := Lib.hid hal
  have AO := Lib.hid hao
  have X0 := Lib.hid hx0
  have HO := Lib.hid ho
  clear hd0 hd2 hd3 hd4 hdx hal hao hx0 ho
  go_enter Tryz.func14, Tryz.ntmps14
  go_upto_block 0 with fail
  generalize w.alloc _ = wa at *
  generalize w.heap.size = ga at *
  have c := h1.cell
  go_cut [7, 8, 9] (fun s7 s8 s9 wx => s8 = .int .i64 X.2.2 ∧ s9 = .int .i64 X.2.2 ∧ Hid (St w0 wx (LAt TFx 11 Fx.cells s7 X.2.1 * (EnAt e X.1 * (RnAt r (X.1.setOut X.2.1) * R)))))
  case first =>
    clear hd
    have hl : x.out.length ≤ 90000 := by rw [HO.out]; decide
    by_cases e0 : d = 0
    · subst e0
      have hX := D0.out rfl
      have hc := e_ask e x ask data ok.b.fl (by omega) HO.out w0 wa _ h1.f2
      rw [← hX] at hc
      have HX := Lib.hid hX
      clear hX
      go_wp2_with fail
      refine hc.mono ?_
      clear hc
      rintro q w2 ⟨v, rfl, h2⟩
      have hr := n_ask r (x.setOut l) ask data ok.b.fl ok.b.un w0 w2 _ h2.f4
      rw [X0.out, ← HX.out] at hr
      have c := h2.f3.cell
      go_wp2_with fail
      refine hr.mono ?_
      rintro q w3 ⟨rfl, h3⟩
      clear hr h2 c
      go_wp2
      go_meet
      exact ⟨rfl, rfl, Lib.hid (h3.f4.drop.eq (by ac_rfl))⟩
    by_cases e2 : d = 2 ∨ d = -2
    · have hX := D2.out e2
      have hk : kInt.ok timer := ht
      have x1 : (x.timeout timer).1 = X.1 := by rw [hX]
      have x2 : (x.timeout timer).2 = X.2.1 := by rw [hX]
      have x3 : (0 : Int) = X.2.2 := by rw [hX]
      have hrun : timer = 200 ∨ timer = 203 ∨ x.runs timer = false := by
        unfold En.runs
        by_cases t2 : timer = 200
        · exact Or.inl t2
        by_cases t3 : timer = 203
        · exact Or.inr (Or.inl t3)
        exact Or.inr (Or.inr (by simp [t2, t3]))
      have htr : 0 ≤ x.tries ∧ x.tries ≤ 1000 := ⟨ok.b.tr0, by have := ok.b.trm; have := ok.b.m32; omega⟩
      have hc := e_timeout e x timer ok.b.fl hrun hk htr (by omega) w0 wa _ h1.f2
      rw [x1, x2] at hc
      have H1 := Lib.hid x1
      have H2 := Lib.hid x2
      have H3 := Lib.hid x3
      clear hX x1 x2 x3 hrun
      rcases e2 with e2 | e2
      all_goals
        subst e2
        go_wp2_with fail
        refine hc.mono ?_
        clear hc
        rintro q w2 ⟨v, rfl, h2⟩
        have hr := n_timeout r (x.setOut l) timer ok.b.fl ok.t3 htr w0 w2 _ h2.f4
        rw [X0.out, H1.out, H2.out] at hr
        have c := h2.f3.cell
        go_wp2_with fail
        refine hr.mono ?_
        rintro q w3 ⟨rfl, h3⟩
        clear hr h2 c
        go_wp2
        go_meet
        exact ⟨by rw [← H3.out], by rw [← H3.out], Lib.hid (h3.f4.drop.eq (by ac_rfl))⟩
    by_cases e3 : d = 3 ∨ d = -3
    · have hX := D3.out e3
      have hc := e_assign e x tei ok.b.fl (by have := ok.b.un; omega) (by omega) w0 wa _ h1.f2
      rw [← hX] at hc
      have HX := Lib.hid hX
      clear hX e2
      rcases e3 with e3 | e3
      all_goals
        subst e3
        go_wp2_with fail
        refine hc.mono ?_
        clear hc
        rintro q w2 ⟨v, rfl, h2⟩
        have hr := n_assign r (x.setOut l) tei ok.b.fl (by have := ok.b.un; exact Nat.le_trans this (by decide)) w0 w2 _ h2.f4
        rw [X0.out, ← HX.out] at hr
        have c := h2.f3.cell
        go_wp2_with fail
        refine hr.mono ?_
        rintro q w3 ⟨rfl, h3⟩
        clear hr h2 c
        go_wp2
        go_meet
        exact ⟨rfl, rfl, Lib.hid (h3.f4.drop.eq (by ac_rfl))⟩
    by_cases e4 : d = 4 ∨ d = -4
    · have hX := D4.out e4
      have hc := e_remove e x ok.b.fl HO.out w0 wa _ h1.f2
      rw [← hX] at hc
      have HX := Lib.hid hX
      clear hX e2 e3
      rcases e4 with e4 | e4
      all_goals
        subst e4
        go_wp2_with fail
        refine hc.mono ?_
        clear hc
        rintro q w2 ⟨v, rfl, h2⟩
        have hr := n_remove r (x.setOut l) ok.b.fl w0 w2 _ h2.f4
        rw [X0.out, ← HX.out] at hr
        go_wp2_with fail
        refine hr.mono ?_
        rintro q w3 ⟨rfl, h3⟩
        clear hr h2
        go_wp2
        go_meet
        exact ⟨rfl, rfl, Lib.hid (h3.f4.drop.eq (by ac_rfl))⟩
    have b0 : (d == 0) = false := by simpa using e0
    have b2 : (d == 2) = false := by simpa using fun h => e2 (Or.inl h)
    have b2' : (d == -2) = false := by simpa using fun h => e2 (Or.inr h)
    have b3 : (d == 3) = false := by simpa using fun h => e3 (Or.inl h)
    have b3' : (d == -3) = false := by simpa using fun h => e3 (Or.inr h)
    have b4 : (d == 4) = false := by simpa using fun h => e4 (Or.inl h)
    have b4' : (d == -4) = false := by simpa using fun h => e4 (Or.inr h)
    have hX := DX.out e0 (fun h => e2 (Or.inl h)) (fun h => e2 (Or.inr h)) (fun h => e3 (Or.inl h)) (fun h => e3 (Or.inr h)) (fun h => e4 (Or.inl h)) (fun h => e4 (Or.inr h))
    have x1 : (x.frame f).1 = X.1 := by rw [hX]
    have x2 : (x.frame f).2 = X.2.1 := by rw [hX]
    have x3 : (0 : Int) = X.2.2 := by rw [hX]
    have H1 := Lib.hid x1
    have H2 := Lib.hid x2
    have H3 := Lib.hid x3
    clear hX x1 x2 x3 e0 e2 e3 e4
    have hc := hff wa _ h1.f3
    go_wp2_with fail
    refine hc.mono ?_
    clear hc h1 c
    rintro q w2 ⟨rfl, h2⟩
    have hc := l_frames f w0 w2 _ h2
    go_wp2_with fail
    refine hc.mono ?_
    clear hc h2
    rintro q w3 ⟨rfl, h3⟩
    have h4 := (h3.alloc (.cells f.cells.toArray TFr)).alloc (.cells f.cells.toArray TRf)
    obtain ⟨b1, b2, cm, kk, p1, bs, br, bf⟩ := f
    go_upto_region 6 with fail
    simp only [World.size_alloc] at *
    generalize (w3.alloc _).alloc _ = wb at *
    generalize w3.heap.size = gb at *
    have c1 := h4.cell
    have c2 := h4.f2.cell
    have htei : 0 ≤ x.tei → 4 ≤ x.state ∧ x.state ≤ 8 := fun q => ⟨ok.tei.1 q, ok.s8⟩
    have HT := Lib.hid htei
    have hN5 : ∀ w' (A1 A2 A3 A4 A5 : HP), St w0 w' (A1 * (A2 * (A3 * (A4 * (A5 * R))))) → NamesAt w' := fun w' A1 A2 A3 A4 A5 h => hN w' (A1 * A2 * A3 * A4 * A5) (h.eq (by simp only [star_assoc]))
    have hc := e_frame e x ⟨b1, b2, cm, kk, p1, bs, br, bf⟩ ok.b.fl htei (by omega) w0 wb _ (hN5 wb _ _ _ _ _ h4) h4.f5
    rw [H1.out, H2.out] at hc
    clear hN5 htei h3
    go_wp2_with fail
    refine hc.mono ?_
    clear hc h4 c1 c2
    rintro q w4 ⟨v, rfl, h5⟩
    have c2 := h5.f3.cell
    have hr := n_frame r (x.setOut l) ⟨b1, b2, cm, kk, p1, bs, br, bf⟩ ok.b.fl HT.out w0 w4 _ h5.f5
    rw [X0.out, H1.out, H2.out] at hr
    go_wp2_with fail
    refine hr.mono ?_
    rintro q w5 ⟨rfl, h6⟩
    clear hr h5 c2
    go_wp2
    go_meet
    exact ⟨by rw [← H3.out], by rw [← H3.out], Lib.hid (h6.eq (show _ = blk (gb + 1) _ * (blk gb _ * (blk ga _ * (LAt TFx 11 Fx.cells v X.2.1 * (EnAt e X.1 * (RnAt r (X.1.setOut X.2.1) * R))))) by ac_rfl)).drop.drop.drop⟩
  case rest =>
    obtain ⟨rfl, rfl, hS⟩ := hcut
    have h2 := hS.out
    clear hd c h1 hff
    obtain ⟨X1, Xl, Xc⟩ := X
    simp only [] at h2 AO AL |-
    by_cases hz : Xc = 0
    · subst hz
      obtain ⟨fp, uv, ov, h3⟩ := h2.f3.n_open
      have p9 := (h3.cell 9).trans (show _ = some ov from rfl)
      have h4 := h3.eq (show _ = LAt TFx 11 Fx.cells u7 Xl * (LAt TRx 11 Fx.cells ov Xl * (blk r (.cells ((X1.setOut Xl).rcells fp uv ov) TRe (0, 0)) * (FAt TG TR fp X1.fl * (Row 9 1 uv X1.units.length (strs X1.units) * (EnAt e X1 * R))))) by simp only [En.setOut]; ac_rfl)
      have hs := l_sameEffects u7 ov Xl AL.out w0 wc _ h4
      clear h2 h3 h4 hS
      go_wp2_with fail
      refine hs.mono ?_
      rintro q w5 ⟨rfl, h5⟩
      clear hs p9
      go_wp2
      go_ret
      exact ⟨rfl, (St.n_shut (x := X1.setOut Xl) (h5.drop.eq (show _ = blk r (.cells ((X1.setOut Xl).rcells fp uv ov) TRe (0, 0)) * (LAt TRx 11 Fx.cells ov Xl * (FAt TG TR fp X1.fl * (Row 9 1 uv X1.units.length (strs X1.units) * (EnAt e X1 * R)))) by ac_rfl)) rfl rfl rfl rfl rfl).f2⟩
    · have hnil : Xl = [] := AO.out.2 hz
      subst hnil
      obtain ⟨la, lc, rfl, _, _⟩ := h2.l_shape
      have bz : (Xc != 0) = true := by simpa using hz
      have bz2 : (Xc == 0) = false := by simpa using hz
      clear hS
      go_wp2_with fail
      go_ret
      exact ⟨rfl, h2.drop⟩
end Go.Proofs.YtoophfokbioaaaaGreatDoor

namespace Go.Proofs.YtoophfokbioaaaaGreatDoor
open Go.RowKit

theorem ac_script {w : World} {a : Option Addr} {len cap : Nat} (h : (Sh.slice acSh).ok w [.slice a len cap]) : len ≤ cap ∧ cap ≤ maxLen ∧ (0 < len → ∃ b off, a = some ⟨b, off, none⟩ ∧ b < w.heap.size ∧
    ∀ i, i < len → ∃ x : AcE, x.Wf ∧ ∀ j, j < 16 → w.cell? ⟨b, off + i * 16 + j, none⟩ = x.cells[j]?) := by
  obtain ⟨h1, h2, h3⟩ := Sh.slice_ok h (by decide)
  refine ⟨h1, h2, fun h0 => ?_⟩
  obtain ⟨b, off, ha, hb, hi⟩ := h3 h0
  refine ⟨b, off, ha, hb, fun i hil => ?_⟩
  obtain ⟨xs, _, hc, hx⟩ := hi i hil
  obtain ⟨x, rfl, ok⟩ := ac_of hx
  refine ⟨x, ok, fun j hj => ?_⟩
  have := hc j hj
  exact this
end Go.Proofs.YtoophfokbioaaaaGreatDoor
