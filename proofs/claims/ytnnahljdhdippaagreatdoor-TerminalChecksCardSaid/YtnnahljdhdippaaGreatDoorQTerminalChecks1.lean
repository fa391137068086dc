/- The laws of terminals: plain laws of errors; a loss of power. TerminalChecks: the walk. -/
import Derived.Test.YtnnahljdhdippaaGreatDoorB31
namespace Go.Proofs.YtnnahljdhdippaaGreatDoor
open Go.RowKit

section
variable {x : Tt}
theorem bits_code (now : Int) (b : ByteArray) : (x.bits now b).2 = if badNow now = true then 2 else 0 := by unfold Tt.bits; split <;> rfl
theorem tick_code (now : Int) : (x.tick now).2 = if badNow now = true then 2 else 0 := by unfold Tt.tick; split <;> rfl
theorem drop_code (now : Int) : (x.drop now).2 = if badNow now = true then 2 else 0 := by unfold Tt.drop; split <;> rfl
theorem remove_state (e : En) : e.remove.1.state = 1 := by
  unfold En.remove
  split
  · assumption
  · rfl
theorem drop_state (hfit : x.Fit) (now : Int) (hb : badNow now = false) : (x.drop now).1.e.state = 1 := by
  unfold Tt.drop
  rw [hb, if_neg (by decide)]
  dsimp only
  have h1 := (fit_users x.u.drop.2.1 (fit_setU (fit_begin hfit now) (us_drop hfit.u).1)).1
  generalize ((x.begin now).setU x.u.drop.1).users x.u.drop.2.1 = y at *
  obtain ⟨_, h3⟩ := fit_remove h1.e
  rw [links_eq _ _ (fun z hz => (h3 z hz).1.2.2)]
  show ((y.setE y.e.remove.1).links0 y.e.remove.2.1).e.state = 1
  rw [links0_e]
  exact remove_state y.e
theorem ask_unit (e : En) (h : e.Fit) (hs : e.state = 1) (d : ByteArray) (hd : d.size ≤ 260) : (e.ask 3 d).2.2 = 0 := by
  have hu := (h.lo (by omega)).2.2.2.2.2 hs
  unfold En.ask
  rw [if_neg (by decide), if_neg (by omega)]
  show (e.unit d).2 = 0
  unfold En.unit
  rw [if_neg (by omega), hu, if_neg (by simp), if_pos hs]
end
/-- is a configuration one that may be? by the document -/
theorem good_of {c : Tcf} : c.good = (decide (1 ≤ c.t200) && decide (c.t200 ≤ 1048576) && (decide (1 ≤ c.t202) && decide (c.t202 ≤ 1048576)) && (decide (1 ≤ c.t203) && decide (c.t203 ≤ 1048576))) := by
  have key : ∀ p : Int, (!badP p) = (decide (1 ≤ p) && decide (p ≤ 1048576)) := fun p => by
    unfold badP
    by_cases a : 1 ≤ p <;> by_cases b : p ≤ 1048576 <;> simp [a, b] <;> omega
  unfold Tcf.good
  rw [key, key, key]
set_option maxRecDepth 100000 in
theorem l_Good (c : Tcf) (w0 w : World) (R : HP) (h : St w0 w R) :
    Calls Tryz.prog 28 #[.agg c.cells.toArray] w fun r w' => r = .returned (.bool c.good) ∧ St w0 w' R := by
  have h1 := h.alloc (.cells c.cells.toArray 27)
  rw [good_of]
  obtain ⟨c1, c2, c3, c4, c5, c6⟩ := c
  simp only [Tcf.cells] at *
  have cg := h1.cell
  have g4 : decide (c4 ≥ 1) = decide (1 ≤ c4) := rfl
  have g5 : decide (c5 ≥ 1) = decide (1 ≤ c5) := rfl
  have g6 : decide (c6 ≥ 1) = decide (1 ≤ c6) := rfl
  clear h
  cases a4 : decide (1 ≤ c4) with
  | false =>
    go_enter Tryz.func28, Tryz.ntmps28
    go_wp2
    go_ret
    exact ⟨rfl, h1.drop⟩
  | true =>
    cases b4 : decide (c4 ≤ 1048576) with
    | false =>
      go_enter Tryz.func28, Tryz.ntmps28
      go_wp2
      go_ret
      exact ⟨rfl, h1.drop⟩
    | true =>
      cases a5 : decide (1 ≤ c5) with
      | false =>
        go_enter Tryz.func28, Tryz.ntmps28
        go_wp2
        go_ret
        exact ⟨rfl, h1.drop⟩
      | true =>
        cases b5 : decide (c5 ≤ 1048576) with
        | false =>
          go_enter Tryz.func28, Tryz.ntmps28
          go_wp2
          go_ret
          exact ⟨rfl, h1.drop⟩
        | true =>
          cases a6 : decide (1 ≤ c6) with
          | false =>
            go_enter Tryz.func28, Tryz.ntmps28
            go_wp2
            go_ret
            exact ⟨rfl, h1.drop⟩
          | true =>
            cases b6 : decide (c6 ≤ 1048576) with
            | false =>
              go_enter Tryz.func28, Tryz.ntmps28
              go_wp2
              go_ret
              exact ⟨rfl, h1.drop⟩
            | true =>
              go_enter Tryz.func28, Tryz.ntmps28
              go_wp2
              go_ret
              exact ⟨rfl, h1.drop⟩
end Go.Proofs.YtnnahljdhdippaaGreatDoor

namespace Go.Proofs.YtnnahljdhdippaaGreatDoor
open Go.RowKit

abbrev cfSh : Sh := .pair (.int .i64) (.pair (.int .i64) (.pair (.int .i64) (.pair (.int .i64) (.pair (.int .i64) (.pair (.int .i64) .unit)))))
theorem cf_of {w : World} {cs : List Value} (h : cfSh.ok w cs) : ∃ c : Tcf, cs = c.cells ∧ (Lit.int .i64 c.k).wf = true ∧ (Lit.int .i64 c.n200).wf = true ∧ (Lit.int .i64 c.n202).wf = true ∧ (Lit.int .i64 c.t200).wf = true ∧ (Lit.int .i64 c.t202).wf = true ∧ (Lit.int .i64 c.t203).wf = true := by
  obtain ⟨_, _, rfl, _, ⟨n1, rfl, w1⟩, _, _, rfl, _, ⟨n2, rfl, w2⟩, _, _, rfl, _, ⟨n3, rfl, w3⟩, _, _, rfl, _, ⟨n4, rfl, w4⟩, _, _, rfl, _, ⟨n5, rfl, w5⟩, _, _, rfl, _, ⟨n6, rfl, w6⟩, h12⟩ := h
  obtain rfl := h12
  exact ⟨⟨n1, n2, n3, n4, n5, n6⟩, rfl, w1, w2, w3, w4, w5, w6⟩
set_option maxRecDepth 100000 in
set_option maxHeartbeats 3200000 in
theorem TerminalChecks.walk (a0 : Array Value) (a1 : Int) (w : World) (hN : NamesAt w) (hF : FirstAt w) (hL : LinkAt w) (w0 : Sh.ok w cfSh a0.toList) (_w1 : (Lit.int .i64 a1).wf = true) :
    Calls Tryz.prog 5 #[.agg a0, .int .i64 a1] w fun e w' => e = .returned (.bool true) ∧ Below w.heap.size w w' := by
  obtain ⟨c, ha, _⟩ := cf_of w0
  obtain rfl : a0 = c.cells.toArray := by rw [← ha]
  have hO : ∀ w', St w w' (Old w) → NamesAt w' := fun w' h => hN.old h.old0 hN.pos
  have hO2 : ∀ w', St w w' (Old w) → FirstAt w' := fun w' h => hF.old h.old0 hF.pos
  have hO3 : ∀ w', St w w' (Old w) → LinkAt w' := fun w' h => hL.old h.old0 hL.pos
  have h2 := ((St.start w).alloc (.cells c.cells.toArray 23))
  generalize a1 = now at *
  clear w0 ha _w1 hN hF hL
  cases good : c.good with
  | false =>
    have hb := fun v w0 w R h => t_new_bad c v good w0 w R h
    have hg := fun w0 w R h => l_Good c w0 w R h
    rw [good] at hg
    obtain ⟨c1, c2, c3, c4, c5, c6⟩ := c
    simp only [Tcf.cells] at *
    clear good
    have d := h2.cell
    go_enter Tryz.func5, Tryz.ntmps5
    go_upto_region 1 with fail
    generalize w.alloc _ = wa at *
    generalize w.heap.size = ga at *
    have hk := hb (.pointer none) w wa _ h2
    go_upto_region 2 with (go_at_call 11; refine hk.mono ?_; rintro r wb ⟨rfl, h3⟩)
    clear hk h2 d hb
    have d := h3.cell
    have hk := hg w wb _ h3
    go_upto_region 3 with (go_at_call 28; refine hk.mono ?_; rintro r wc ⟨rfl, h4⟩)
    clear hk h3 d hg
    have hk := tt_wakes w wc _ (fun w' h => hO w' h.drop) (fun w' h => hO2 w' h.drop) (fun w' h => hO3 w' h.drop) h4
    go_wp2_with fail
    refine hk.mono ?_
    rintro r wd ⟨rfl, h5⟩
    clear hk h4
    go_wp2_with fail
    refine (tn_bits _ _ w wd _ h5).mono ?_
    rintro r we ⟨rfl, hb⟩
    have h6 := hb.alloc (.cells #[.slice none 0 0, .slice none 0 0] TRes)
    clear h5 hb
    go_upto_region 11 with fail
    generalize we.alloc _ = w1 at *
    generalize we.heap.size = g1 at *
    go_wp2_with fail
    refine (tn_tick _ w w1 _ h6).mono ?_
    rintro r we ⟨rfl, hb⟩
    have h7 := hb.alloc (.cells #[.slice none 0 0, .slice none 0 0] TRes)
    clear h6 hb
    go_upto_region 12 with fail
    generalize we.alloc _ = w2 at *
    generalize we.heap.size = g2 at *
    go_wp2_with fail
    refine (tn_drop _ w w2 _ h7).mono ?_
    rintro r we ⟨rfl, hb⟩
    have h8 := hb.alloc (.cells #[.slice none 0 0, .slice none 0 0] TRes)
    clear h7 hb
    go_upto_region 13 with fail
    generalize we.alloc _ = w3 at *
    generalize we.heap.size = g3 at *
    go_wp2_with fail
    refine (tn_ask _ _ _ w w3 _ h8).mono ?_
    rintro r we ⟨rfl, hb⟩
    have h9 := hb.alloc (.cells #[.slice none 0 0, .slice none 0 0] TRes)
    clear h8 hb
    go_wp2
    go_ret
    exact ⟨rfl, h9.drop.drop.drop.drop.drop.old0⟩
  | true =>
    have hn := fun w0 w R h => t_new c (.pointer none) ⟨true, [], 0⟩ good w0 w R h
    have hg := fun w0 w R h => l_Good c w0 w R h
    rw [good] at hg
    have f0 := fit_tt_new c ⟨true, [], 0⟩
    have d0 : (newTt c ⟨true, [], 0⟩).d = .new := rfl
    generalize newTt c ⟨true, [], 0⟩ = x0 at *
    obtain ⟨c1, c2, c3, c4, c5, c6⟩ := c
    simp only [Tcf.cells] at *
    clear good
    have d := h2.cell
    by_cases a : now < 0
    · have hbn : badNow now = true := by unfold badNow; exact decide_eq_true (.inl a)
      have q1 : decide (now < 0) = true := decide_eq_true a
      clear a
      go_enter Tryz.func5, Tryz.ntmps5
      go_upto_region 1 with fail
      generalize w.alloc _ = wa at *
      generalize w.heap.size = ga at *
      have hk := hn w wa _ ((h2.inn (p := (.pointer none : Value) = .pointer none) rfl))
      go_upto_region 2 with (go_at_call 11; refine hk.mono ?_; rintro r wb ⟨t, rfl, h3⟩)
      clear hk h2 d hn
      have d := h3.f2.cell
      have hk := hg w wb _ h3
      go_upto_region 3 with (go_at_call 28; refine hk.mono ?_; rintro r wc ⟨rfl, h4⟩)
      clear hk h3 d hg
      have hk := tt_wakes w wc _ (fun w' h => hO w' h.drop.drop) (fun w' h => hO2 w' h.drop.drop) (fun w' h => hO3 w' h.drop.drop) h4
      go_wp2_with fail
      refine hk.mono ?_
      rintro r wd ⟨rfl, h5⟩
      clear hk h4
      have hk := t_bits t x0 now noStr f0 (by rw [d0]; decide) (by decide) w wd _ (fun w' h => hO w' h.drop) (fun w' h => hO2 w' h.drop) (fun w' h => hO3 w' h.drop) h5
      have f1 := fit_tt_bits f0 now noStr
      have hc := bits_code (x := x0) now noStr
      rw [hbn] at hc
      first | rw [if_pos rfl] at hc | rw [if_neg (by decide)] at hc
      rw [hc] at hk
      generalize (x0.bits now noStr).1 = x1 at *
      obtain ⟨n1, hn1⟩ : ∃ n, x1.sent.length = n := ⟨_, rfl⟩
      obtain ⟨m1, hm1⟩ : ∃ n, x1.told.length = n := ⟨_, rfl⟩
      clear h5 hc f0 d0
      go_upto_region 11 with (go_at_call 20; refine hk.mono ?_; rintro r wb ⟨sv, tv, rfl, hb⟩; obtain ⟨sa, sc, ta, tc, rfl, rfl⟩ := hb.res_shape hn1 hm1)
      clear hk hn1 hm1
      have h6 := ((hb.drop.drop).alloc (.cells #[.slice sa n1 sc, .slice ta m1 tc] TRes)).f2
      clear hb
      generalize wb.alloc _ = w6 at *
      generalize wb.heap.size = g6 at *
      have hk := t_tick t x1 now f1 w w6 _ (fun w' h => hO w' h.drop.drop) (fun w' h => hO2 w' h.drop.drop) (fun w' h => hO3 w' h.drop.drop) h6
      have f2 := fit_tick f1 now
      have hc := tick_code (x := x1) now
      rw [hbn] at hc
      first | rw [if_pos rfl] at hc | rw [if_neg (by decide)] at hc
      rw [hc] at hk
      generalize (x1.tick now).1 = x2 at *
      obtain ⟨n1, hn1⟩ : ∃ n, x2.sent.length = n := ⟨_, rfl⟩
      obtain ⟨m1, hm1⟩ : ∃ n, x2.told.length = n := ⟨_, rfl⟩
      clear h6 hc f1
      go_upto_region 12 with (go_at_call 27; refine hk.mono ?_; rintro r wb ⟨sv, tv, rfl, hb⟩; obtain ⟨sa, sc, ta, tc, rfl, rfl⟩ := hb.res_shape hn1 hm1)
      clear hk hn1 hm1
      have h7 := ((hb.drop.drop).alloc (.cells #[.slice sa n1 sc, .slice ta m1 tc] TRes)).f2
      clear hb
      generalize wb.alloc _ = w7 at *
      generalize wb.heap.size = g7 at *
      have hk := t_drop t x2 now f2 w w7 _ (fun w' h => hO w' h.drop.drop.drop) (fun w' h => hO2 w' h.drop.drop.drop) (fun w' h => hO3 w' h.drop.drop.drop) h7
      have f3 := fit_drop f2 now
      have hc := drop_code (x := x2) now
      have hs := drop_state f2 now
      rw [hbn] at hc
      first | rw [if_pos rfl] at hc | rw [if_neg (by decide)] at hc
      rw [hc] at hk
      generalize (x2.drop now).1 = x3 at *
      obtain ⟨n1, hn1⟩ : ∃ n, x3.sent.length = n := ⟨_, rfl⟩
      obtain ⟨m1, hm1⟩ : ∃ n, x3.told.length = n := ⟨_, rfl⟩
      clear h7 hc f2
      go_upto_region 13 with (go_at_call 29; refine hk.mono ?_; rintro r wb ⟨sv, tv, rfl, hb⟩; obtain ⟨sa, sc, ta, tc, rfl, rfl⟩ := hb.res_shape hn1 hm1)
      clear hk hn1 hm1
      have h8 := ((hb.drop.drop).alloc (.cells #[.slice sa n1 sc, .slice ta m1 tc] TRes)).f2
      clear hb
      generalize wb.alloc _ = w8 at *
      generalize wb.heap.size = g8 at *
      have hk := t_ask t x3 now 3 ⟨#[120]⟩ f3 w w8 _ (fun w' h => hO w' h.drop.drop.drop.drop) (fun w' h => hO2 w' h.drop.drop.drop.drop) (fun w' h => hO3 w' h.drop.drop.drop.drop) h8
      have hc : (x3.ask now 3 ⟨#[120]⟩).2 = 2 := by
        unfold Tt.ask
        rw [hbn]
        first | rfl | exact ask_unit x3.e f3.e (hs hbn) _ (by decide)
      rw [hc] at hk
      generalize (x3.ask now 3 ⟨#[120]⟩).1 = x4 at *
      obtain ⟨n1, hn1⟩ : ∃ n, x4.sent.length = n := ⟨_, rfl⟩
      obtain ⟨m1, hm1⟩ : ∃ n, x4.told.length = n := ⟨_, rfl⟩
      clear h8 hc f3 hs hbn
      go_wp2_with (go_at_call 17; refine hk.mono ?_; rintro r wb ⟨sv, tv, rfl, hb⟩; obtain ⟨sa, sc, ta, tc, rfl, rfl⟩ := hb.res_shape hn1 hm1)
      have h9 := ((hb.drop.drop).alloc (.cells #[.slice sa n1 sc, .slice ta m1 tc] TRes))
      go_ret
      exact ⟨rfl, h9.drop.drop.drop.drop.drop.drop.old0⟩
    have q1 : decide (now < 0) = false := decide_eq_false a
    by_cases b : 9007199254740992 < now
    · have hbn : badNow now = true := by unfold badNow; exact decide_eq_true (.inr b)
      have q2 : decide (now > 9007199254740992) = true := decide_eq_true b
      have q3 : decide (9007199254740992 < now) = true := decide_eq_true b
      clear a b
      go_enter Tryz.func5, Tryz.ntmps5
      go_upto_region 1 with fail
      generalize w.alloc _ = wa at *
      generalize w.heap.size = ga at *
      have hk := hn w wa _ ((h2.inn (p := (.pointer none : Value) = .pointer none) rfl))
      go_upto_region 2 with (go_at_call 11; refine hk.mono ?_; rintro r wb ⟨t, rfl, h3⟩)
      clear hk h2 d hn
      have d := h3.f2.cell
      have hk := hg w wb _ h3
      go_upto_region 3 with (go_at_call 28; refine hk.mono ?_; rintro r wc ⟨rfl, h4⟩)
      clear hk h3 d hg
      have hk := tt_wakes w wc _ (fun w' h => hO w' h.drop.drop) (fun w' h => hO2 w' h.drop.drop) (fun w' h => hO3 w' h.drop.drop) h4
      go_wp2_with fail
      refine hk.mono ?_
      rintro r wd ⟨rfl, h5⟩
      clear hk h4
      have hk := t_bits t x0 now noStr f0 (by rw [d0]; decide) (by decide) w wd _ (fun w' h => hO w' h.drop) (fun w' h => hO2 w' h.drop) (fun w' h => hO3 w' h.drop) h5
      have f1 := fit_tt_bits f0 now noStr
      have hc := bits_code (x := x0) now noStr
      rw [hbn] at hc
      first | rw [if_pos rfl] at hc | rw [if_neg (by decide)] at hc
      rw [hc] at hk
      generalize (x0.bits now noStr).1 = x1 at *
      obtain ⟨n1, hn1⟩ : ∃ n, x1.sent.length = n := ⟨_, rfl⟩
      obtain ⟨m1, hm1⟩ : ∃ n, x1.told.length = n := ⟨_, rfl⟩
      clear h5 hc f0 d0
      go_upto_region 11 with (go_at_call 20; refine hk.mono ?_; rintro r wb ⟨sv, tv, rfl, hb⟩; obtain ⟨sa, sc, ta, tc, rfl, rfl⟩ := hb.res_shape hn1 hm1)
      clear hk hn1 hm1
      have h6 := ((hb.drop.drop).alloc (.cells #[.slice sa n1 sc, .slice ta m1 tc] TRes)).f2
      clear hb
      generalize wb.alloc _ = w6 at *
      generalize wb.heap.size = g6 at *
      have hk := t_tick t x1 now f1 w w6 _ (fun w' h => hO w' h.drop.drop) (fun w' h => hO2 w' h.drop.drop) (fun w' h => hO3 w' h.drop.drop) h6
      have f2 := fit_tick f1 now
      have hc := tick_code (x := x1) now
      rw [hbn] at hc
      first | rw [if_pos rfl] at hc | rw [if_neg (by decide)] at hc
      rw [hc] at hk
      generalize (x1.tick now).1 = x2 at *
      obtain ⟨n1, hn1⟩ : ∃ n, x2.sent.length = n := ⟨_, rfl⟩
      obtain ⟨m1, hm1⟩ : ∃ n, x2.told.length = n := ⟨_, rfl⟩
      clear h6 hc f1
      go_upto_region 12 with (go_at_call 27; refine hk.mono ?_; rintro r wb ⟨sv, tv, rfl, hb⟩; obtain ⟨sa, sc, ta, tc, rfl, rfl⟩ := hb.res_shape hn1 hm1)
      clear hk hn1 hm1
      have h7 := ((hb.drop.drop).alloc (.cells #[.slice sa n1 sc, .slice ta m1 tc] TRes)).f2
      clear hb
      generalize wb.alloc _ = w7 at *
      generalize wb.heap.size = g7 at *
      have hk := t_drop t x2 now f2 w w7 _ (fun w' h => hO w' h.drop.drop.drop) (fun w' h => hO2 w' h.drop.drop.drop) (fun w' h => hO3 w' h.drop.drop.drop) h7
      have f3 := fit_drop f2 now
      have hc := drop_code (x := x2) now
      have hs := drop_state f2 now
      rw [hbn] at hc
      first | rw [if_pos rfl] at hc | rw [if_neg (by decide)] at hc
      rw [hc] at hk
      generalize (x2.drop now).1 = x3 at *
      obtain ⟨n1, hn1⟩ : ∃ n, x3.sent.length = n := ⟨_, rfl⟩
      obtain ⟨m1, hm1⟩ : ∃ n, x3.told.length = n := ⟨_, rfl⟩
      clear h7 hc f2
      go_upto_region 13 with (go_at_call 29; refine hk.mono ?_; rintro r wb ⟨sv, tv, rfl, hb⟩; obtain ⟨sa, sc, ta, tc, rfl, rfl⟩ := hb.res_shape hn1 hm1)
      clear hk hn1 hm1
      have h8 := ((hb.drop.drop).alloc (.cells #[.slice sa n1 sc, .slice ta m1 tc] TRes)).f2
      clear hb
      generalize wb.alloc _ = w8 at *
      generalize wb.heap.size = g8 at *
      have hk := t_ask t x3 now 3 ⟨#[120]⟩ f3 w w8 _ (fun w' h => hO w' h.drop.drop.drop.drop) (fun w' h => hO2 w' h.drop.drop.drop.drop) (fun w' h => hO3 w' h.drop.drop.drop.drop) h8
      have hc : (x3.ask now 3 ⟨#[120]⟩).2 = 2 := by
        unfold Tt.ask
        rw [hbn]
        first | rfl | exact ask_unit x3.e f3.e (hs hbn) _ (by decide)
      rw [hc] at hk
      generalize (x3.ask now 3 ⟨#[120]⟩).1 = x4 at *
      obtain ⟨n1, hn1⟩ : ∃ n, x4.sent.length = n := ⟨_, rfl⟩
      obtain ⟨m1, hm1⟩ : ∃ n, x4.told.length = n := ⟨_, rfl⟩
      clear h8 hc f3 hs hbn
      go_wp2_with (go_at_call 17; refine hk.mono ?_; rintro r wb ⟨sv, tv, rfl, hb⟩; obtain ⟨sa, sc, ta, tc, rfl, rfl⟩ := hb.res_shape hn1 hm1)
      have h9 := ((hb.drop.drop).alloc (.cells #[.slice sa n1 sc, .slice ta m1 tc] TRes))
      go_ret
      exact ⟨rfl, h9.drop.drop.drop.drop.drop.drop.old0⟩
    have q2 : decide (now > 9007199254740992) = false := decide_eq_false b
    have q3 : decide (9007199254740992 < now) = false := decide_eq_false b
    have hbn : badNow now = false := by unfold badNow; exact decide_eq_false (by rintro (h | h) <;> contradiction)
    clear a b
    go_enter Tryz.func5, Tryz.ntmps5
    go_upto_region 1 with fail
    generalize w.alloc _ = wa at *
    generalize w.heap.size = ga at *
    have hk := hn w wa _ ((h2.inn (p := (.pointer none : Value) = .pointer none) rfl))
    go_upto_region 2 with (go_at_call 11; refine hk.mono ?_; rintro r wb ⟨t, rfl, h3⟩)
    clear hk h2 d hn
    have d := h3.f2.cell
    have hk := hg w wb _ h3
    go_upto_region 3 with (go_at_call 28; refine hk.mono ?_; rintro r wc ⟨rfl, h4⟩)
    clear hk h3 d hg
    have hk := tt_wakes w wc _ (fun w' h => hO w' h.drop.drop) (fun w' h => hO2 w' h.drop.drop) (fun w' h => hO3 w' h.drop.drop) h4
    go_wp2_with fail
    refine hk.mono ?_
    rintro r wd ⟨rfl, h5⟩
    clear hk h4
    have hk := t_bits t x0 now noStr f0 (by rw [d0]; decide) (by decide) w wd _ (fun w' h => hO w' h.drop) (fun w' h => hO2 w' h.drop) (fun w' h => hO3 w' h.drop) h5
    have f1 := fit_tt_bits f0 now noStr
    have hc := bits_code (x := x0) now noStr
    rw [hbn] at hc
    first | rw [if_pos rfl] at hc | rw [if_neg (by decide)] at hc
    rw [hc] at hk
    generalize (x0.bits now noStr).1 = x1 at *
    obtain ⟨n1, hn1⟩ : ∃ n, x1.sent.length = n := ⟨_, rfl⟩
    obtain ⟨m1, hm1⟩ : ∃ n, x1.told.length = n := ⟨_, rfl⟩
    clear h5 hc f0 d0
    go_upto_region 11 with (go_at_call 20; refine hk.mono ?_; rintro r wb ⟨sv, tv, rfl, hb⟩; obtain ⟨sa, sc, ta, tc, rfl, rfl⟩ := hb.res_shape hn1 hm1)
    clear hk hn1 hm1
    have h6 := ((hb.drop.drop).alloc (.cells #[.slice sa n1 sc, .slice ta m1 tc] TRes)).f2
    clear hb
    generalize wb.alloc _ = w6 at *
    generalize wb.heap.size = g6 at *
    have hk := t_tick t x1 now f1 w w6 _ (fun w' h => hO w' h.drop.drop) (fun w' h => hO2 w' h.drop.drop) (fun w' h => hO3 w' h.drop.drop) h6
    have f2 := fit_tick f1 now
    have hc := tick_code (x := x1) now
    rw [hbn] at hc
    first | rw [if_pos rfl] at hc | rw [if_neg (by decide)] at hc
    rw [hc] at hk
    generalize (x1.tick now).1 = x2 at *
    obtain ⟨n1, hn1⟩ : ∃ n, x2.sent.length = n := ⟨_, rfl⟩
    obtain ⟨m1, hm1⟩ : ∃ n, x2.told.length = n := ⟨_, rfl⟩
    clear h6 hc f1
    go_upto_region 12 with (go_at_call 27; refine hk.mono ?_; rintro r wb ⟨sv, tv, rfl, hb⟩; obtain ⟨sa, sc, ta, tc, rfl, rfl⟩ := hb.res_shape hn1 hm1)
    clear hk hn1 hm1
    have h7 := ((hb.drop.drop).alloc (.cells #[.slice sa n1 sc, .slice ta m1 tc] TRes)).f2
    clear hb
    generalize wb.alloc _ = w7 at *
    generalize wb.heap.size = g7 at *
    have hk := t_drop t x2 now f2 w w7 _ (fun w' h => hO w' h.drop.drop.drop) (fun w' h => hO2 w' h.drop.drop.drop) (fun w' h => hO3 w' h.drop.drop.drop) h7
    have f3 := fit_drop f2 now
    have hc := drop_code (x := x2) now
    have hs := drop_state f2 now
    rw [hbn] at hc
    first | rw [if_pos rfl] at hc | rw [if_neg (by decide)] at hc
    rw [hc] at hk
    generalize (x2.drop now).1 = x3 at *
    obtain ⟨n1, hn1⟩ : ∃ n, x3.sent.length = n := ⟨_, rfl⟩
    obtain ⟨m1, hm1⟩ : ∃ n, x3.told.length = n := ⟨_, rfl⟩
    clear h7 hc f2
    go_upto_region 13 with (go_at_call 29; refine hk.mono ?_; rintro r wb ⟨sv, tv, rfl, hb⟩; obtain ⟨sa, sc, ta, tc, rfl, rfl⟩ := hb.res_shape hn1 hm1)
    clear hk hn1 hm1
    have h8 := ((hb.drop.drop).alloc (.cells #[.slice sa n1 sc, .slice ta m1 tc] TRes)).f2
    clear hb
    generalize wb.alloc _ = w8 at *
    generalize wb.heap.size = g8 at *
    have hk := t_ask t x3 now 3 ⟨#[120]⟩ f3 w w8 _ (fun w' h => hO w' h.drop.drop.drop.drop) (fun w' h => hO2 w' h.drop.drop.drop.drop) (fun w' h => hO3 w' h.drop.drop.drop.drop) h8
    have hc : (x3.ask now 3 ⟨#[120]⟩).2 = 0 := by
      unfold Tt.ask
      rw [hbn]
      first | rfl | exact ask_unit x3.e f3.e (hs hbn) _ (by decide)
    rw [hc] at hk
    generalize (x3.ask now 3 ⟨#[120]⟩).1 = x4 at *
    obtain ⟨n1, hn1⟩ : ∃ n, x4.sent.length = n := ⟨_, rfl⟩
    obtain ⟨m1, hm1⟩ : ∃ n, x4.told.length = n := ⟨_, rfl⟩
    clear h8 hc f3 hs hbn
    go_wp2_with (go_at_call 17; refine hk.mono ?_; rintro r wb ⟨sv, tv, rfl, hb⟩; obtain ⟨sa, sc, ta, tc, rfl, rfl⟩ := hb.res_shape hn1 hm1)
    have h9 := ((hb.drop.drop).alloc (.cells #[.slice sa n1 sc, .slice ta m1 tc] TRes))
    go_ret
    exact ⟨rfl, h9.drop.drop.drop.drop.drop.drop.old0⟩
end Go.Proofs.YtnnahljdhdippaaGreatDoor
