/- A terminal: Ask; how a call ends. -/
import Derived.Test.YtnnahljdhdippaaGreatDoorB26
namespace Go.Proofs.YtnnahljdhdippaaGreatDoor
open Go.RowKit

abbrev TRes : TypeId := 54
set_option maxRecDepth 100000 in
set_option maxHeartbeats 1600000 in
theorem t_ask (t : Nat) (x : Tt) (now a : Int) (d : ByteArray) (hfit : x.Fit) (w0 w : World) (R : HP) (hN : ∀ w', St w0 w' R → NamesAt w') (hF : ∀ w', St w0 w' R → FirstAt w') (hL : ∀ w', St w0 w' R → LinkAt w') (h : St w0 w (TtOff t x * R)) :
    Calls Tryz.prog 17 #[ptr t, .int .i64 now, .int .i64 a, .string d] w fun r w' => ∃ sv tv, r = .returned (.tuple #[.agg #[sv, tv], .int .i64 (x.ask now a d).2]) ∧ St w0 w' (LAt 9 1 encS sv (x.ask now a d).1.sent * (LAt TTold 2 tolC tv (x.ask now a d).1.told * (TtOff t (x.ask now a d).1 * R))) := by
  have h1 := h.alloc (.cells #[.slice none 0 0, .slice none 0 0] TRes)
  unfold Tt.ask
  by_cases hb : badNow now = true
  · rw [if_pos hb]
    have hc := t_begin_bad t x now hb w0 _ _ h1.f2
    go_enter Tryz.func17, Tryz.ntmps17
    go_upto_region 1 with fail
    generalize w.alloc _ = wa at *
    generalize w.heap.size = ga at *
    go_wp2_with fail
    refine hc.mono ?_
    rintro r w5 ⟨rfl, h5⟩
    clear hc h1
    have h6 := h5.f2
    have c6 := h6.cell
    have f6 := h6.free
    have h9 := (h6.set 0 (.slice none 0 0)).set 1 (.slice none 0 0)
    clear h5 h6
    go_wp2
    have c9 := h9.cell
    refine bodyPost_ret (v := .tuple #[.agg #[.slice none 0 0, .slice none 0 0], .int .i64 2]) (by simp [results, Tryz.results17, go_sem, c9]) rfl ⟨_, _, rfl, ?_⟩
    exact (h9.drop.l_nil TTold 2 tolC).l_nil 9 1 encS
  · rw [if_neg hb]
    have hb : badNow now = false := by simpa using hb
    have hc := t_begin t x now hb w0 _ _ h1.f2
    have hft := Lib.hid (fit_begin hfit now)
    have HN := Lib.hid hN
    have HF := Lib.hid hF
    have HK := Lib.hid hL
    have hlen : (x.begin now).len = 0 := rfl
    have HE := Lib.hid (show (x.begin now).e = x.e from rfl)
    clear hN hF hL hfit hb h
    generalize x.begin now = X at *
    dsimp only
    have hfe := hft.out.e
    rw [← HE.out]
    obtain ⟨fa, fb⟩ := fit_ask hfe a d
    have ln := ask_len X.e (out0 hfe) a d
    have hfx := fit_setE hft.out fa
    have hk := fun e w h => e_ask e X.e a d hfe.ok.b.fl (by rw [hfe.out]; decide) hfe.out w0 w (R := h)
    obtain ⟨A, hA⟩ : ∃ A, X.e.ask a d = A := ⟨_, rfl⟩
    rw [hA] at fa fb ln hfx hk ⊢
    obtain ⟨A1, A2, A3⟩ := A
    simp only [] at *
    have HA := Lib.hid (show (Fxs X.e.tei A2 ∨ A2 = [Fx.of 8 noStr]) ∧ X.e.tei ≤ 126 ∧ (X.setE A1).Fit ∧ A2.length ≤ 100000 ∧ (X.setE A1).len = 0 from ⟨fb.imp id (fun e => e.1), hfe.wd.t, hfx, ln, hlen⟩)
    obtain ⟨Y, hY⟩ : ∃ Y, (X.setE A1).links A2 = Y := ⟨_, rfl⟩
    rw [hY]
    have HY := Lib.hid hY
    clear hA hlen fa fb ln hfx hft hfe HE hY
    go_enter Tryz.func17, Tryz.ntmps17
    go_upto_region 1 with fail
    generalize w.alloc _ = wa at *
    generalize w.heap.size = ga at *
    go_upto_region 2 with (go_at_call 41; refine hc.mono ?_; rintro r w5 ⟨e, u, c, p, rfl, h5⟩)
    clear hc h1
    obtain ⟨sv, tv, h6⟩ := h5.tt_open
    have c6 := h6.cell
    have hq := hk e w5 _ h6.f2
    clear hk
    go_upto_region 5 with (go_at_call 42; refine hq.mono ?_; rintro r w7 ⟨v7, rfl, h7⟩)
    clear hq h5 h6 c6
    have h8 : St w0 w7 (TtAt t e u c p (X.setE A1) * (LAt TFx 11 Fx.cells v7 A2 * (blk ga (.cells #[.slice none 0 0, .slice none 0 0] TRes (0, 0)) * R))) := St.tt_shut (x := X.setE A1) (e := e) (u := u) (c := c) (p := p) (sv := sv) (tv := tv) (h7.eq (by ac_rfl))
    have hs := t_links t e u c p (X.setE A1) v7 A2 X.e.tei HA.out.1 HA.out.2.1 HA.out.2.2.1 HA.out.2.2.2.1 (by rw [HA.out.2.2.2.2]; decide) w0 w7 _ (fun w' h => HN.out w' h.drop) (fun w' h => HF.out w' h.drop) (fun w' h => HK.out w' h.drop) h8.f2
    clear h7 h8
    rw [HY.out] at hs
    go_upto_region 6 with (go_at_call 43; refine hs.mono ?_; rintro r w9 ⟨rfl, h9⟩)
    clear hs
    have hz := h9.drop
    clear h9
    clear HN HF HK HA HY
    obtain ⟨sv, tv, h1⟩ := hz.tt_open
    have s1 := (h1.eq (show _ = LAt 9 1 encS sv Y.sent * (LAt TTold 2 tolC tv Y.told * (blk t _ * (EnAt e Y.e * (UsAt u Y.u * (CAt c Y.c * (DeAt p Y.d * (blk ga _ * R))))))) by ac_rfl)).l_shape
    have s2 := (h1.eq (show _ = LAt TTold 2 tolC tv Y.told * (LAt 9 1 encS sv Y.sent * (blk t _ * (EnAt e Y.e * (UsAt u Y.u * (CAt c Y.c * (DeAt p Y.d * (blk ga _ * R))))))) by ac_rfl)).l_shape
    obtain ⟨ns, hns⟩ : ∃ n, Y.sent.length = n := ⟨_, rfl⟩
    obtain ⟨nt, hnt⟩ : ∃ n, Y.told.length = n := ⟨_, rfl⟩
    rw [hns] at s1
    rw [hnt] at s2
    obtain ⟨sa, sc, rfl, _, _⟩ := s1
    obtain ⟨ta, tc, rfl, _, _⟩ := s2
    have c1 := h1.cell
    have h2 := h1.eq (show _ = blk ga _ * (blk t _ * (EnAt e Y.e * (UsAt u Y.u * (CAt c Y.c * (DeAt p Y.d * (LAt 9 1 encS (.slice sa ns sc) Y.sent * (LAt TTold 2 tolC (.slice ta nt tc) Y.told * R))))))) by ac_rfl)
    have cg := h2.cell
    have fg := h2.free
    have h9 := (h2.set 0 (.slice sa ns sc)).set 1 (.slice ta nt tc)
    clear h1 h2 hz hns hnt
    go_wp2
    have c9 := h9.cell
    refine bodyPost_ret (v := .tuple #[.agg #[.slice sa ns sc, .slice ta nt tc], .int .i64 A3]) (by simp [results, Tryz.results17, go_sem, c9]) rfl ⟨_, _, rfl, ?_⟩
    have h10 : St w0 _ (TtOff t Y * (LAt 9 1 encS (.slice sa ns sc) Y.sent * (LAt TTold 2 tolC (.slice ta nt tc) Y.told * R))) := St.off_shut (x := Y) (e := e) (u := u) (c := c) (p := p) (sv := .slice sa ns sc) (tv := .slice ta nt tc) h9.drop
    exact h10.b3
end Go.Proofs.YtnnahljdhdippaaGreatDoor
