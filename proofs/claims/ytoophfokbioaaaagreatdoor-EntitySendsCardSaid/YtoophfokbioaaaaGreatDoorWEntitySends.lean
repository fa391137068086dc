/- EntitySends: the walk. -/
import Derived.Test.YtoophfokbioaaaaGreatDoorFxEq
import Derived.Test.YtoophfokbioaaaaGreatDoorSendP
import Derived.Test.YtoophfokbioaaaaGreatDoorConfP
import Derived.Test.YtoophfokbioaaaaGreatDoorPutC
import Derived.Test.YtoophfokbioaaaaGreatDoorViewC
namespace Go.Proofs.YtoophfokbioaaaaGreatDoor
open Go.RowKit

theorem cf_act {x : En} {m k : Int} {M : Nat} (h : Cf x m k M) (a : AcE) : Cf (x.act a).1 m k M := by
  unfold En.act
  split
  · exact cf_ask h _ _
  · split
    · exact cf_timeout h _
    · split
      · exact cf_assign h _
      · split
        · exact cf_remove h
        · exact cf_frame h _
theorem low_act {x : En} (ok : x.Ok) (h : x.Low) (a : AcE) : (x.act a).1.Low := by
  unfold En.act
  split
  · exact low_ask ok h _ _
  · split
    · exact low_timeout ok h _
    · split
      · exact low_assign ok h _
      · split
        · exact low_remove h
        · exact low_frame ok h _
theorem wd_act {x : En} (ok : x.Ok) (ho : x.out = []) (h : x.Low) (d : Wd x) (a : AcE) : Wd (x.act a).1 := by
  unfold En.act
  split
  · exact (ask_sp ok d ho _ _).1
  · split
    · exact (timeout_sp ok h d ho _).1
    · split
      · exact assign_wd d _
      · split
        · exact remove_wd d
        · exact (frame_sp ok d ho _).1
structure Alw (x : En) (m k : Int) : Prop where
  ok : x.Ok
  out : x.out = []
  cf : Cf x m k 256
  low : x.Low
  wd : Wd x
theorem acts_alw {m k : Int} (f : Nat → AcE) (x : En) (h : Alw x m k) : ∀ n, Alw (En.acts f n x) m k
  | 0 => h
  | n + 1 => by
    have h0 := acts_alw f x h n
    have h1 := acts_ok f x ⟨h.ok, h.out⟩ (n + 1)
    exact ⟨h1.1, h1.2, cf_act h0.cf _, low_act h0.ok h0.low _, wd_act h0.ok h0.out h0.low h0.wd _⟩
theorem alw_new (k n : Int) : Alw (newEn k n) (max 1 (min n 32)) k := ⟨ok_new k n, rfl, cf_new k n, fun _ => ⟨rfl, rfl, rfl, rfl, rfl, fun _ => rfl⟩, wd_new k n⟩
theorem lk_guard (op : BinOp) (x y : Operand) (xs ys : Array Value) (w : World) : (eqGuard op 51 x y (.agg xs) (.agg ys)).run Tryz.prog w = .ok () w := run_eqGuard_agg (P := Tryz.prog) w op 51 x y xs ys (by kernel_rfl)
theorem vw_f1 (s t r u a b c g h : Int) (k m n x y z : Bool) (w : World) : (Instr.field 43 (.agg #[.int .i64 s, .int .i64 t, .int .i64 r, .bool k, .bool m, .bool n, .int .i64 u, .int .i64 a, .int .i64 b, .int .i64 c, .bool x, .bool y, .bool z, .int .i64 g, .int .i64 h]) 1).run Tryz.prog w = .ok (.int .i64 t) w := by kernel_rfl
/-- what is so behind the last act -/
structure Fin (k : Int) (Y : En) (L : List Fx) : Prop where
  ok : Y.Ok
  k : Y.fl.k = k
  len : L.length ≤ 100000
  t : Y.tei ≤ 126
  s : Sent Y L
theorem fin_of {x Y : En} {k m : Int} {L : List Fx} (ok : Y.Ok) (cf : Cf Y m k 256) (hl : L.length ≤ 100000) (ht : Y.tei = x.tei) (wd : Wd Y) (s : Sent x L) : Fin k Y L :=
  ⟨ok, cf.f.k, hl, wd.t, fun z hz h => by rw [ht]; exact s z hz h⟩
theorem put_ok {t : Int} {f : Fr} (h : FrOk t f) (t0 : 0 ≤ t) (t1 : t ≤ 126) : PutOk f :=
  ⟨by rw [h.sapi]; decide, by rw [h.sapi]; decide, by rw [h.tei]; exact t0, by rw [h.tei]; omega, h.may, h.car, h.ns0, h.ns1, h.nr0, h.nr1⟩

set_option maxRecDepth 100000 in
set_option maxHeartbeats 3200000 in
theorem EntitySends.walk (a0 : Int) (a1 : Option Addr) (len1 cap1 : Nat) (a2 : Array Value) (w : World) (hN : NamesAt w) (hF : FirstAt w) (_ : (Lit.int .i64 a0).wf = true) (w1 : (Sh.slice acSh).ok w [.slice a1 len1 cap1]) (w2 : Sh.ok w acSh a2.toList) :
    Calls Tryz.prog 9 #[.int .i64 a0, .slice a1 len1 cap1, .agg a2] w fun e w' => e = .returned (.bool true) ∧ Below w.heap.size w w' := by
  obtain ⟨a, ha, wa⟩ := ac_of w2
  obtain rfl : a2 = a.cells.toArray := by rw [← ha]
  obtain ⟨l1, l2, f, l3⟩ := script_fn w1
  clear w1 w2 ha
  have hO : ∀ w' (A : HP), St w w' (A * Old w) → NamesAt w' := fun w' A h => hN.old (h.eq (show _ = Old w * A by ac_rfl)).old hN.pos
  have hP : ∀ w' (A : HP), St w w' (A * Old w) → FirstAt w' := fun w' A h => hF.old (h.eq (show _ = Old w * A by ac_rfl)).old hF.pos
  have HO := Lib.hid (show ∀ w' (A B C : HP), St w w' (A * (B * (C * Old w))) → NamesAt w' from fun w' A B C h => hO w' (A * (B * C)) (h.eq (by simp only [star_assoc])))
  have HO4 := Lib.hid (show ∀ w' (A B C D : HP), St w w' (A * (B * (C * (D * Old w)))) → NamesAt w' from fun w' A B C D h => hO w' (A * (B * (C * D))) (h.eq (by simp only [star_assoc])))
  have HP4 := Lib.hid (show ∀ w' (A B C D : HP), St w w' (A * (B * (C * (D * Old w)))) → FirstAt w' from fun w' A B C D h => hP w' (A * (B * (C * D))) (h.eq (by simp only [star_assoc])))
  obtain ⟨x, hx⟩ : ∃ x, En.acts f (min len1 60) (newEn a0 3) = x := ⟨_, rfl⟩
  have al := acts_alw f (newEn a0 3) (alw_new a0 3) (min len1 60)
  rw [hx] at al
  have h1 := (St.start w).alloc (.cells a.cells.toArray TAc)
  have hca := l_after a0 3 a1 len1 cap1 f w _ (blk w.heap.size (.cells a.cells.toArray TAc (0, 0))) l1 l2 l3 hN h1
  rw [hx] at hca
  have HA := Lib.hid al
  have HW := Lib.hid wa
  clear hN hF hx l1 l2 l3 hO hP al h1 wa
  have h1 := (St.start w).alloc (.cells a.cells.toArray TAc)
  obtain ⟨af, haf⟩ : ∃ g, a.frame x = g := ⟨_, rfl⟩
  obtain ⟨Do, ask, timer, tei, data, ⟨c1, c2, ccmd, ck, cpf, cns, cnr, cinf⟩, near, N, M⟩ := a
  go_enter Tryz.func9, Tryz.ntmps9
  go_upto_region 1 with fail
  generalize w.alloc _ = wb at *
  generalize w.heap.size = ga at *
  clear h1
  go_wp2_with fail
  refine hca.mono ?_
  rintro q v1 ⟨e, r, l, rfl, h2⟩
  clear hca
  have c := h2.f3.cell
  obtain ⟨d, hd⟩ : ∃ d, Do.tmod 6 = d := ⟨_, rfl⟩
  have hff := fun v R h => l_frameOf r (x.setOut l) ⟨Do, ask, timer, tei, data, ⟨c1, c2, ccmd, ck, cpf, cns, cnr, cinf⟩, near, N, M⟩ HA.out.ok.b.fl w v R h
  rw [show AcE.frame ⟨Do, ask, timer, tei, data, ⟨c1, c2, ccmd, ck, cpf, cns, cnr, cinf⟩, near, N, M⟩ (x.setOut l) = af from haf] at hff
  clear haf
  go_upto_block 0 with fail
  go_cut [9] (fun s9 wx => ∃ (Y : En) (L : List Fx), Hid (Fin a0 Y L) ∧ Hid (St w wx (LAt TFx 11 Fx.cells s9 L * (EnAt e Y * (RnAt r (x.setOut l) * Old w)))))
  case first =>
    have ok := HA.out.ok
    have ho := HA.out.out
    have hl : x.out.length ≤ 90000 := by rw [ho]; decide
    have ho0 : Out x 0 := by unfold Out; rw [ho]; exact Nat.le_refl _
    by_cases e0 : d = 0
    · subst e0
      have hc := e_ask e x ask data ok.b.fl (by omega) ho w v1 _ h2
      have hln := ask_len x ho0 ask data
      have HL := Lib.hid hln
      clear ok ho hl ho0 hff hln
      go_wp2_with fail
      refine hc.mono ?_
      rintro q v2 ⟨lv, rfl, h3⟩
      go_wp2
      go_meet
      exact ⟨_, _, Lib.hid (fin_of (ok_ask HA.out.ok ask data) (cf_ask HA.out.cf ask data) HL.out (ask_tei x ask data) (ask_sp HA.out.ok HA.out.wd HA.out.out ask data).1 (ask_sp HA.out.ok HA.out.wd HA.out.out ask data).2), Lib.hid h3.f4.drop⟩
    by_cases e2 : d = 2
    · subst e2
      have hk : kInt.ok timer := HW.out.timer
      have hrun : timer = 200 ∨ timer = 203 ∨ x.runs timer = false := by
        unfold En.runs
        by_cases t2 : timer = 200
        · exact Or.inl t2
        by_cases t3 : timer = 203
        · exact Or.inr (Or.inl t3)
        exact Or.inr (Or.inr (by simp [t2, t3]))
      have htr : 0 ≤ x.tries ∧ x.tries ≤ 1000 := ⟨ok.b.tr0, by have := ok.b.trm; have := ok.b.m32; omega⟩
      have hc := e_timeout e x timer ok.b.fl hrun hk htr (by omega) w v1 _ h2
      have hln := timeout_len x ho0 timer
      have HL := Lib.hid hln
      clear ok ho hl ho0 hff hrun hk htr hln e0
      go_wp2_with fail
      refine hc.mono ?_
      rintro q v2 ⟨lv, rfl, h3⟩
      go_wp2
      go_meet
      exact ⟨_, _, Lib.hid (fin_of (ok_timeout HA.out.ok timer) (cf_timeout HA.out.cf timer) HL.out (timeout_tei x timer) (timeout_sp HA.out.ok HA.out.low HA.out.wd HA.out.out timer).1 (timeout_sp HA.out.ok HA.out.low HA.out.wd HA.out.out timer).2), Lib.hid h3.f4.drop⟩
    · have b0 : (d == 0) = false := by simpa using e0
      have b2 : (d == 2) = false := by simpa using e2
      have hln := frame_len x ho0 af
      have HL := Lib.hid hln
      have hfr := fun v R hN h => e_frame e x af ok.b.fl (fun ht => ⟨ok.tei.1 ht, ok.s8⟩) (by omega) w v R hN h
      have ofr := fin_of (ok_frame ok af) (cf_frame HA.out.cf af) hln (frame_tei x af) (frame_sp ok HA.out.wd ho af).1 (frame_sp ok HA.out.wd ho af).2
      generalize x.frame af = Z at *
      obtain ⟨Z, L⟩ := Z
      have OFR := Lib.hid ofr
      simp only [] at hfr
      clear ok ho hl ho0 hln e0 e2 ofr
      have hc := hff v1 _ h2.f2
      clear hff
      obtain ⟨f1, f2, fc, fk, fp, fns, fnr, fi⟩ := af
      go_wp2_with fail
      refine hc.mono ?_
      rintro q v2 ⟨rfl, h3⟩
      clear hc h2 c
      go_wp2_with fail
      refine (l_frames ⟨f1, f2, fc, fk, fp, fns, fnr, fi⟩ w v2 _ h3).mono ?_
      rintro q v3 ⟨rfl, h4⟩
      clear h3
      have h5 := (h4.alloc (.cells (Fr.cells ⟨f1, f2, fc, fk, fp, fns, fnr, fi⟩).toArray TFr)).alloc (.cells (Fr.cells ⟨f1, f2, fc, fk, fp, fns, fnr, fi⟩).toArray 55)
      clear h4
      go_upto_region 5 with fail
      simp only [World.size_alloc] at *
      generalize (v3.alloc _).alloc _ = v4 at *
      generalize v3.heap.size = gz at *
      have h6 := h5.drop
      have c := h6.cell
      have h7 : St w v4 (EnAt e x * (blk gz (.cells (Fr.cells ⟨f1, f2, fc, fk, fp, fns, fnr, fi⟩).toArray TFr (0, 0)) * (RnAt r (x.setOut l) * (blk ga (.cells (AcE.cells ⟨Do, ask, timer, tei, data, ⟨c1, c2, ccmd, ck, cpf, cns, cnr, cinf⟩, near, N, M⟩).toArray TAc (0, 0)) * Old w)))) := h6.eq (by ac_rfl)
      have hc := hfr v4 _ (HO4.out _ _ _ _ _ h7) h7
      clear h5 h6 h7 hfr
      go_wp2_with fail
      refine hc.mono ?_
      rintro q v5 ⟨lv, rfl, h8⟩
      go_wp2
      go_meet
      exact ⟨_, _, OFR, Lib.hid (h8.f3.drop.f4.drop)⟩
  case rest =>
    obtain ⟨Y, L, HFI, hcut⟩ := hcut
    have h3 := hcut.out
    clear hcut h2 c hff hd
    obtain ⟨la, ca, rfl, _, _⟩ := h3.l_shape
    obtain ⟨n, hn⟩ : ∃ n, L.length = n := ⟨_, rfl⟩
    have hln := HFI.out.len
    rw [hn] at h3 hln ⊢
    have HN := Lib.hid hn
    have hvw := fun v R h => e_view e Y HFI.out.ok.b.fl w v R h
    clear hn
    go_wp2
    go_loopw [55] (fun s wr => ∃ k : Nat, k ≤ n ∧ s = .int .i64 k ∧ St w wr (LAt TFx 11 Fx.cells (.slice la n ca) L * (EnAt e Y * (RnAt r (x.setOut l) * Old w)))) (fun s _ => n - (intOf s).toNat)
    case atStart => exact ⟨0, by omega, rfl, h3⟩
    case round =>
      clear h3
      obtain ⟨k, hk, rfl, g2⟩ := hrel
      by_cases hkn : k < n
      · have hil : k < L.length := by rw [HN.out]; exact hkn
        obtain ⟨y, hy⟩ : ∃ y, L[k]? = some y := ⟨L[k], List.getElem?_eq_getElem hil⟩
        obtain ⟨g, o, rfl⟩ : ∃ g o, la = some ⟨g, o, none⟩ := by
          rcases g2.l_cells tyFx.len with ⟨h0, _⟩ | ⟨g, o, cp, hv, _⟩
          · rw [h0] at hil; simp at hil
          · simp only [Value.slice.injEq] at hv; exact ⟨g, o, hv.1⟩
        have hsd := fun e => HFI.out.s y (List.mem_of_getElem? hy) e
        have F1 := fx_one g2 k y hy
        unfold FxOne at F1
        obtain ⟨kind, fr, dt, timer2⟩ := y
        have hpo : kind = 0 → PutOk fr := fun e => put_ok (hsd e).1 (hsd e).2 HFI.out.t
        obtain ⟨y1, y2, ycmd, yk, ypf, yns, ynr, yinf⟩ := fr
        obtain ⟨p0, p1, p2, p3, p4, p5, p6, p7, p8, p9, p10⟩ := F1
        have g3 := g2.alloc (.cells (Fx.cells ⟨kind, ⟨y1, y2, ycmd, yk, ypf, yns, ynr, yinf⟩, dt, timer2⟩).toArray TFx)
        have hki : (k : Int) < (n : Int) := by omega
        have HS := Lib.hid (fun e => (hsd e).1)
        have HPO := Lib.hid hpo
        clear hy hil g2 hsd hpo
        go_upto_region 13 with fail
        generalize wr.alloc _ = wa at *
        generalize wr.heap.size = gb at *
        have c0 := g3.cell
        clear p0 p1 p2 p3 p4 p5 p6 p7 p8 p9 p10
        by_cases k0 : kind = 0
        · have hsa : y1 = 0 := (HS.out k0).sapi
          have hst : y2 = Y.tei := (HS.out k0).tei
          have hpp := p_put ⟨y1, y2, ycmd, yk, ypf, yns, ynr, yinf⟩ true (HPO.out k0) w wa _ (fun w' h => HO4.out w' _ _ _ _ h) (fun w' h => HP4.out w' _ _ _ _ h) g3
          generalize putO _ true = ps at *
          subst k0 hsa hst
          go_wp2_with fail
          refine hpp.mono ?_
          rintro q u1 ⟨rfl, g4⟩
          clear hpp c0 g3
          have hv2 := hvw
          unfold En.view at hv2
          have hgl := lk_guard
          have hsl := lk_same 10000 (by decide) 0 Y.tei
          have hf1 := vw_f1
          have d4 := g4.drew.cell
          have c1 := (d4 1).trans (show _ = some (Value.int .i64 0) from rfl)
          have c2 := (d4 2).trans (show _ = some (Value.int .i64 Y.tei) from rfl)
          go_upto_region 15 with fail
          clear d4
          go_region_held3 (fun w' => w'.cell? ⟨gb, 1, none⟩ = some (.int .i64 0) ∧ w'.cell? ⟨gb, 2, none⟩ = some (.int .i64 Y.tei)) (first | with_reducible exact ⟨c1, c2⟩ | with_reducible exact ⟨e1, e2⟩) (first | (go_at_call 16; refine (hv2 _ _ g4.drew.f3).mono ?_; rintro q u2 ⟨rfl, g5⟩; clear c1 c2 g4; have d5 := g5.f2.cell; have e1 := (d5 1).trans (show _ = some (Value.int .i64 0) from rfl); have e2 := (d5 2).trans (show _ = some (Value.int .i64 Y.tei) from rfl); clear d5))
          go_wp2
          go_roundw
          case rel => exact ⟨k + 1, by omega, by go_num, (g5.eq (show _ = blk gb _ * (LAt TFx 11 Fx.cells _ L * (EnAt e Y * (RnAt r (x.setOut l) * Old w))) by ac_rfl)).drop⟩
          case measure => simp [intOf]; omega
        · have b0 : (kind != 0) = true := by simpa using k0
          have b1 : (kind == 0) = false := by simpa using k0
          go_wp2
          go_roundw
          case rel => exact ⟨k + 1, by omega, by go_num, g3.drop⟩
          case measure => simp [intOf]; omega
      · obtain rfl : k = n := by omega
        have hfi := HFI.out
        have q1 := hfi.ok.b.un
        have q2 := hfi.ok.b.fl.n
        have q3 := hfi.ok.b.fl.q.ll
        have q4 := hfi.ok.b.fl.q.sl
        have q5 := hfi.ok.b.fl.q.m2
        have q6 : ¬ (Y.t2 = true ∧ Y.t3 = true) := fun h => by
          have := (hfi.ok.j (hfi.ok.t3 h.2)).one h.2
          rw [this] at h
          exact absurd h.1 (by decide)
        rw [hfi.k] at q2
        have hc := hvw wr _ g2.f2
        unfold En.view at hc
        obtain ⟨yl, hyl⟩ : ∃ v : Int, ((Y.fl.q.l.length : Int) - (Y.fl.q.sent : Int)) = v := ⟨_, rfl⟩
        obtain ⟨yq, hyq⟩ : ∃ v : Int, ((Y.fl.q.sent : Nat) : Int) = v := ⟨_, rfl⟩
        obtain ⟨yu, hyu⟩ : ∃ v : Int, ((Y.units.length : Nat) : Int) = v := ⟨_, rfl⟩
        have b1 : decide (yu ≤ 256) = true := by simp; omega
        have b2 : IntKind.i64.wrap (yq + yl) = yq + yl := by rw [IntKind.wrap_i64]; omega
        have b3 : decide (yq + yl ≤ 256) = true := by simp; omega
        have b4 : yq ≤ max 1 (min a0 127) := by omega
        rw [hyl, hyq, hyu] at hc
        clear hyl hyq hyu q1 q2 q3 q4 q5 hfi hvw
        generalize ((Y.fl.vs : Nat) : Int) = yvs at *
        generalize ((Y.fl.va : Nat) : Int) = yva at *
        generalize ((Y.fl.vr : Nat) : Int) = yvr at *
        generalize Y.state = ys at *
        generalize Y.tei = yt at *
        generalize Y.tries = yr at *
        generalize Y.asked = ya at *
        generalize Y.t2 = y2 at *
        generalize Y.t3 = y3 at *
        generalize Y.fl.peer = yp at *
        generalize Y.fl.own = yo at *
        generalize Y.fl.refused = yf at *
        go_wp2_with fail
        refine hc.mono ?_
        rintro q u0 ⟨rfl, g2a⟩
        clear hc g2
        have g3 := g2a.alloc (.cells #[.int .i64 ys, .int .i64 yt, .int .i64 yr, .bool ya, .bool y2, .bool y3, .int .i64 yu, .int .i64 yvs, .int .i64 yva, .int .i64 yvr, .bool yp, .bool yo, .bool yf, .int .i64 yq, .int .i64 yl] 43)
        clear g2a
        go_upto_region 19 with fail
        generalize u0.alloc _ = wa at *
        generalize u0.heap.size = gb at *
        have c := g3.cell
        have hwk := en_wakes w wa _ (fun w' h => HO4.out w' _ _ _ _ h) g3
        by_cases n127 : 127 < a0
        · have b5 : decide (yq ≤ 127) = true := by simp; omega
          clear b4
          cases y2 with
          | false =>
            clear q6
            go_wp2_with fail
            refine hwk.mono ?_
            rintro q u1 ⟨rfl, g4⟩
            clear hwk c g3
            have c := g4.cell
            go_wp2
            go_ret
            exact ⟨rfl, g4.drop.drop.drop.drop.old0⟩
          | true =>
            obtain rfl : y3 = false := by simpa using q6
            clear q6
            go_wp2_with fail
            refine hwk.mono ?_
            rintro q u1 ⟨rfl, g4⟩
            clear hwk c g3
            have c := g4.cell
            go_wp2
            go_ret
            exact ⟨rfl, g4.drop.drop.drop.drop.old0⟩
        · by_cases n1 : 1 < a0
          · have b5 : decide (yq ≤ a0) = true := by simp; omega
            clear b4
            cases y2 with
            | false =>
              clear q6
              go_wp2_with fail
              refine hwk.mono ?_
              rintro q u1 ⟨rfl, g4⟩
              clear hwk c g3
              have c := g4.cell
              go_wp2
              go_ret
              exact ⟨rfl, g4.drop.drop.drop.drop.old0⟩
            | true =>
              obtain rfl : y3 = false := by simpa using q6
              clear q6
              go_wp2_with fail
              refine hwk.mono ?_
              rintro q u1 ⟨rfl, g4⟩
              clear hwk c g3
              have c := g4.cell
              go_wp2
              go_ret
              exact ⟨rfl, g4.drop.drop.drop.drop.old0⟩
          · have b5 : decide (yq ≤ 1) = true := by simp; omega
            clear b4
            cases y2 with
            | false =>
              clear q6
              go_wp2_with fail
              refine hwk.mono ?_
              rintro q u1 ⟨rfl, g4⟩
              clear hwk c g3
              have c := g4.cell
              go_wp2
              go_ret
              exact ⟨rfl, g4.drop.drop.drop.drop.old0⟩
            | true =>
              obtain rfl : y3 = false := by simpa using q6
              clear q6
              go_wp2_with fail
              refine hwk.mono ?_
              rintro q u1 ⟨rfl, g4⟩
              clear hwk c g3
              have c := g4.cell
              go_wp2
              go_ret
              exact ⟨rfl, g4.drop.drop.drop.drop.old0⟩
end Go.Proofs.YtoophfokbioaaaaGreatDoor
