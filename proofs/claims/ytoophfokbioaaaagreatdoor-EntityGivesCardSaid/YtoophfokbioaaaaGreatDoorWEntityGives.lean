/- EntityGives: the walk. -/
import Derived.Test.YtoophfokbioaaaaGreatDoorFxEq
import Derived.Test.YtoophfokbioaaaaGreatDoorGiveP
import Derived.Test.YtoophfokbioaaaaGreatDoorConfP
namespace Go.Proofs.YtoophfokbioaaaaGreatDoor
open Go.RowKit

theorem cf_act {x : En} {m k : Int} {M : Nat} (h : Cf x m k M) (a : AcE) : Cf (x.act a).1 m k M := by
  unfold En.act
  split
  · exact cf_ask h _ _
  · split
    · exact cf_timeout h _
    · split
      · exact cf_assign h _
      · split
        · exact cf_remove h
        · exact cf_frame h _
theorem cf_acts {m k : Int} {M : Nat} (f : Nat → AcE) (x : En) (h : Cf x m k M) : ∀ n, Cf (En.acts f n x) m k M
  | 0 => h
  | n + 1 => cf_act (cf_acts f x h n) _
theorem assign_tei {x : En} (h4 : x.state < 4) (t : Int) (t0 : 0 ≤ t) (t1 : t ≤ 126) : (x.assign t).1.tei = t ∧ (x.assign t).1.out = [] := by
  unfold En.assign
  rw [if_neg (by omega), if_neg (by omega)]
  dsimp only
  refine ⟨?_, rfl⟩
  have hu := unitsK_tei x.units (x := ((x.setTei t).setState 4).setUnits []) (Int.le_refl _)
  have h0 : Te (x.units.foldl (fun y s => (y.unit s).1) (((x.setTei t).setState 4).setUnits [])) t := hu
  exact ((h0.setAsked true).call).ite (c := x.state = 3) h0
/-- the entity behind 'if it has no TEI, it is assigned 70' -/
def En.with70 (x : En) : En := if x.tei < 0 then (x.assign 70).1 else x
theorem with70_ok {x : En} (ok : x.Ok) (ho : x.out = []) : x.with70.Ok ∧ x.with70.out = [] ∧ 4 ≤ x.with70.state ∧ x.with70.state ≤ 8 := by
  unfold En.with70
  split
  · rename_i h
    have h4 : x.state < 4 := by have := ok.tei; omega
    have ha := assign_tei h4 70 (by decide) (by decide)
    have ok2 := ok_assign ok 70
    exact ⟨ok2, ha.2, ok2.tei.1 (by rw [ha.1]; decide), ok2.s8⟩
  · rename_i h
    exact ⟨ok, ho, ok.tei.1 (by omega), ok.s8⟩
theorem with70_cf {x : En} {m k : Int} {M : Nat} (h : Cf x m k M) : Cf x.with70 m k M := by
  unfold En.with70
  split
  · exact cf_assign h 70
  · exact h
section
variable (s t r u a b c g h : Int) (k m n x y z : Bool) (w : World)
theorem vw_f0 : (Instr.field 43 (.agg #[.int .i64 s, .int .i64 t, .int .i64 r, .bool k, .bool m, .bool n, .int .i64 u, .int .i64 a, .int .i64 b, .int .i64 c, .bool x, .bool y, .bool z, .int .i64 g, .int .i64 h]) 0).run Tryz.prog w = .ok (.int .i64 s) w := by kernel_rfl
theorem vw_f1 : (Instr.field 43 (.agg #[.int .i64 s, .int .i64 t, .int .i64 r, .bool k, .bool m, .bool n, .int .i64 u, .int .i64 a, .int .i64 b, .int .i64 c, .bool x, .bool y, .bool z, .int .i64 g, .int .i64 h]) 1).run Tryz.prog w = .ok (.int .i64 t) w := by kernel_rfl
theorem vw_f4 : (Instr.field 43 (.agg #[.int .i64 s, .int .i64 t, .int .i64 r, .bool k, .bool m, .bool n, .int .i64 u, .int .i64 a, .int .i64 b, .int .i64 c, .bool x, .bool y, .bool z, .int .i64 g, .int .i64 h]) 4).run Tryz.prog w = .ok (.bool m) w := by kernel_rfl
end
/-- at the effect that tells the end -/
theorem give_at {X : En} {L : List Fx} {K T s : Int} {i m : Nat} (h : GiveA X L K T s i m) (hT0 : T ≠ 0) {k : Nat} {y : Fx} (hy : L[k]? = some y) (hyT : y.kind = T) (hk : ∀ z ∈ L.take k, z.kind ≠ T) : i = m + 1 ∧ X.state = 4 ∧ X.t2 = false ∧ List.countP (sendK K) (L.take k) = 0 := by
  rcases h.alt with ⟨_, _, _, _, _, _, h6⟩ | ⟨h1, h2, h3, y0, y1, r, rfl, h5, h6, h7⟩
  · exact absurd hyT (h6 y (List.mem_of_getElem? hy))
  · refine ⟨h1, h2, h3, ?_⟩
    match k, hy, hk with
    | 0, _, _ => rfl
    | 1, _, _ =>
      simp only [List.take_succ_cons, List.take_zero, List.countP_cons, List.countP_nil]
      have : sendK K y0 = false := by unfold sendK; simp [h5]
      rw [this]
      rfl
    | k + 2, _, hk => exact absurd h7 (hk y1 (by simp))
theorem give_all {X : En} {L : List Fx} {K T s : Int} {i m : Nat} (h : GiveA X L K T s i m) (hk : ∀ z ∈ L, z.kind ≠ T) : i ≤ m ∧ List.countP (sendK K) L = 1 := by
  rcases h.alt with ⟨h1, _, _, _, _, h5, _⟩ | ⟨_, _, _, y0, y1, r, rfl, _, _, h7⟩
  · exact ⟨h1, h5⟩
  · exact absurd h7 (hk y1 (by simp))
theorem give_le {X : En} {L : List Fx} {K T s : Int} {i m : Nat} (h : GiveA X L K T s i m) : i ≤ m + 1 := by
  rcases h.alt with ⟨h1, _⟩ | ⟨h1, _⟩ <;> omega
theorem take_no {L : List Fx} {k : Nat} {y : Fx} {T : Int} (hy : L[k]? = some y) (hk : ∀ z ∈ L.take k, z.kind ≠ T) (hT : y.kind ≠ T) : ∀ z ∈ L.take (k + 1), z.kind ≠ T := by
  rw [List.take_add_one, hy, Option.toList_some]
  intro z hz
  rcases List.mem_append.1 hz with h | h
  · exact hk z h
  · rw [List.mem_singleton.1 h]
    exact hT
theorem take_cnt {L : List Fx} {k : Nat} {y : Fx} (K : Int) (hy : L[k]? = some y) : List.countP (sendK K) (L.take (k + 1)) = List.countP (sendK K) (L.take k) + (if sendK K y = true then 1 else 0) := by
  rw [List.take_add_one, hy, Option.toList_some, List.countP_append, List.countP_singleton]

set_option maxRecDepth 100000 in
set_option maxHeartbeats 3200000 in
theorem EntityGives.walk (a0 : Int) (a1 : Option Addr) (len1 cap1 : Nat) (a2 : Bool) (w : World) (hN : NamesAt w) (_ : (Lit.int .i64 a0).wf = true) (w1 : (Sh.slice acSh).ok w [.slice a1 len1 cap1]) :
    Calls Tryz.prog 5 #[.int .i64 a0, .slice a1 len1 cap1, .bool a2] w fun e w' => e = .returned (.bool true) ∧ Below w.heap.size w w' := by
  obtain ⟨l1, l2, f, l3⟩ := script_fn w1
  clear w1
  have hO : ∀ w' (A : HP), St w w' (A * Old w) → NamesAt w' := fun w' A h => hN.old (h.eq (show _ = Old w * A by ac_rfl)).old hN.pos
  have hO2 : ∀ w' (A B : HP), St w w' (A * (B * Old w)) → NamesAt w' := fun w' A B h => hO w' (A * B) (h.eq (by simp only [star_assoc]))
  obtain ⟨x, hx⟩ : ∃ x, En.acts f (min len1 60) (newEn 7 a0) = x := ⟨_, rfl⟩
  have ok := acts_ok f (newEn 7 a0) ⟨ok_new 7 a0, rfl⟩ (min len1 60)
  have cf := cf_acts f (newEn 7 a0) (cf_new 7 a0) (min len1 60)
  rw [hx] at ok cf
  have hca := l_after 7 a0 a1 len1 cap1 f w w 1 l1 l2 l3 hN ((St.start w).eq (one_star _).symm)
  rw [hx] at hca
  clear hN hx l1 l2 l3
  have HO := Lib.hid hO2
  have HO4 := Lib.hid (show ∀ w' (A B C D : HP), St w w' (A * (B * (C * (D * Old w)))) → NamesAt w' from fun w' A B C D h => hO w' (A * (B * (C * D))) (h.eq (by simp only [star_assoc])))
  have OK := Lib.hid ok
  have o70 := with70_ok ok.1 ok.2
  have c70 := with70_cf cf
  obtain ⟨m, hm⟩ : ∃ m : Nat, max 1 (min a0 32) = (m : Int) := ⟨(max 1 (min a0 32)).toNat, by omega⟩
  have HM := Lib.hid hm
  have hm32 : m ≤ 32 := by omega
  have hmost := c70.m
  rw [hm] at hmost
  clear hO hO2 ok cf hm c70
  go_enter Tryz.func5, Tryz.ntmps5
  go_wp2_with fail
  refine hca.mono ?_
  rintro q v1 ⟨e, r, l, rfl, h1⟩
  have h2 : St w v1 (EnAt e x * (RnAt r (x.setOut l) * Old w)) := h1.eq (by rw [one_star])
  clear hca h1
  have hview := fun (z : En) ok v R h => e_view e z ok w v R h
  have hva := hview x OK.out.1.b.fl v1 _ h2
  have has := fun v R h => e_assign e x 70 OK.out.1.b.fl (Nat.le_trans OK.out.1.b.un (by decide)) (by rw [OK.out.2]; decide) w v R h
  unfold En.view at hva
  clear h2
  obtain ⟨xt, hxt⟩ : ∃ t, x.tei = t := ⟨_, rfl⟩
  rw [hxt] at hva
  have HXT := Lib.hid hxt
  have hf1 := vw_f1
  clear hxt
  go_upto_if 28 with (go_at_call 16; refine hva.mono ?_; rintro q v2 ⟨rfl, h3⟩; clear hva)
  go_cut [] (fun wx => Hid (St w wx (EnAt e x.with70 * (RnAt r (x.setOut l) * Old w))))
  case first =>
    clear hview o70 hmost hf1
    by_cases ht : xt < 0
    · have bt : decide (xt < 0) = true := by simpa using ht
      have ha := has v2 _ h3
      clear has
      go_wp2_with fail
      refine ha.mono ?_
      rintro q v3 ⟨lv, rfl, h4⟩
      go_wp2
      go_meet
      refine Lib.hid ?_
      have hxt := HXT.out
      unfold En.with70
      rw [hxt, if_pos ht]
      exact h4.drop
    · have bt : decide (xt < 0) = false := by simpa using ht
      clear has
      go_wp2
      go_meet
      refine Lib.hid ?_
      have hxt := HXT.out
      unfold En.with70
      rw [hxt, if_neg (by omega)]
      exact h3
  case rest =>
    clear has h3
    have h3 := hcut.out
    clear hcut hf1
    generalize x.with70 = y at *
    obtain ⟨ok, ho, s4, s8⟩ := o70
    obtain ⟨s, hs⟩ : ∃ s, y.state = s := ⟨_, rfl⟩
    have hvw := hview y ok.b.fl
    have hl : y.out.length ≤ 98990 := by rw [ho]; decide
    have ho0 : Out y 0 := by unfold Out; rw [ho]; exact Nat.le_refl _
    have hcall := fun h => give_call ok ho hmost h
    have hrel := fun h => give_rel ok ho hmost h
    have hakA := fun a v R h => e_ask e y a noStr ok.b.fl hl ho w v R h
    have hlnA := fun a => ask_len y ho0 a noStr
    unfold En.view at hvw
    rw [hs] at hvw s4 s8 hcall hrel
    have HOK := Lib.hid ok
    clear hs ok ho hl ho0 hmost
    have hf0 := vw_f0
    cases a2 with
    | false =>
      clear hrel
      have hak := hakA 0
      have hln := hlnA 0
      clear hakA hlnA
      generalize y.ask 0 noStr = Y at *
      obtain ⟨Y, L0, C0⟩ := Y
      simp only [] at hak hln hcall
      go_wp2_with fail
      refine (hvw _ _ h3).mono ?_
      rintro q v4 ⟨rfl, h4⟩
      clear hvw h3
      by_cases s6 : s = 6
      · subst s6
        clear hcall hak
        go_wp2_with fail
        refine (en_wakes w _ _ (fun w' h => HO.out w' _ _ h) h4).mono ?_
        rintro q v9 ⟨rfl, h9⟩
        go_wp2
        go_ret
        exact ⟨rfl, h9.drop.drop.old0⟩
      · by_cases s5 : s = 5
        · subst s5
          clear hcall hak
          go_wp2_with fail
          refine (en_wakes w _ _ (fun w' h => HO.out w' _ _ h) h4).mono ?_
          rintro q v9 ⟨rfl, h9⟩
          go_wp2
          go_ret
          exact ⟨rfl, h9.drop.drop.old0⟩
        · have b6 : (s == 6) = false := by simpa using s6
          have b5 : (s == 5) = false := by simpa using s5
          obtain ⟨ga, rfl⟩ := hcall (by omega)
          have GA := Lib.hid ga
          clear hcall ga
          have hS := h4
          clear h4
          go_wp2_with fail
          refine (hak _ _ hS).mono ?_
          rintro q u1 ⟨lv, rfl, g1⟩
          clear hak
          go_wp2
          go_loopw [14, 16, 60] (fun s14 s16 s60 wr => ∃ (i : Nat) (X : En) (L : List Fx), i ≤ 34 ∧ s60 = .int .i64 i ∧ s16 = .int .i64 i ∧ Hid (GiveA X L 4 3 5 i m) ∧ L.length ≤ 100000 ∧ St w wr (LAt TFx 11 Fx.cells s14 L * (EnAt e X * (RnAt r (x.setOut l) * Old w)))) (fun _ _ s60 _ => 34 - (intOf s60).toNat)
          case atStart => exact ⟨0, Y, L0, by omega, rfl, rfl, GA, hln, g1⟩
          case round =>
            clear g1 GA hln
            obtain ⟨i, X, L, hi, rfl, rfl, GA, hln, g1⟩ := hrel
            have hle := give_le GA.out
            have hlt : i < 34 := by omega
            have hlt2 : (i : Int) < 34 := by omega
            obtain ⟨la, ca, rfl, _, _⟩ := g1.l_shape
            obtain ⟨n, hn⟩ : ∃ n, L.length = n := ⟨_, rfl⟩
            rw [hn] at g1 hln ⊢
            have HN := Lib.hid hn
            clear hn
            go_wp2
            go_loopw [16, 64] (fun s16 s64 wr => ∃ k : Nat, k ≤ n ∧ s64 = .int .i64 k ∧ s16 = .int .i64 ((i + List.countP (sendK 4) (L.take k) : Nat) : Int) ∧ Hid (∀ z ∈ L.take k, z.kind ≠ 3) ∧ St w wr (LAt TFx 11 Fx.cells (.slice la n ca) L * (EnAt e X * (RnAt r (x.setOut l) * Old w)))) (fun _ s64 _ => n - (intOf s64).toNat)
            case atStart => exact ⟨0, by omega, rfl, rfl, Lib.hid (fun z hz => by simp at hz), g1⟩
            case round =>
              clear g1
              obtain ⟨k, hk, rfl, rfl, HT, g2⟩ := hrel
              by_cases hkn : k < n
              · have hil : k < L.length := by rw [HN.out]; exact hkn
                obtain ⟨y, hy⟩ : ∃ y, L[k]? = some y := ⟨L[k], List.getElem?_eq_getElem hil⟩
                obtain ⟨g, o, rfl⟩ : ∃ g o, la = some ⟨g, o, none⟩ := by
                  rcases g2.l_cells tyFx.len with ⟨h0, _⟩ | ⟨g, o, cp, hv, _⟩
                  · rw [h0] at hil; simp at hil
                  · simp only [Value.slice.injEq] at hv; exact ⟨g, o, hv.1⟩
                have hgat := fun e => give_at GA.out (by decide) hy e HT.out
                have hno := take_no hy HT.out
                have hct := take_cnt 4 hy
                have hcl : List.countP (sendK 4) (L.take k) ≤ n := Nat.le_trans List.countP_le_length (by rw [List.length_take]; omega)
                have F1 := fx_one g2 k y hy
                unfold FxOne at F1
                unfold sendK at hct
                rw [show (fun y : Fx => y.kind == 0 && y.fr.kind == 4) = sendK 4 from rfl] at hct
                generalize List.countP (sendK 4) (L.take k) = c at *
                obtain ⟨kind, ⟨y1, y2, ycmd, yk, ypf, yns, ynr, yinf⟩, data, timer⟩ := y
                simp only [] at hgat hno hct
                obtain ⟨p0, p1, p2, p3, p4, p5, p6, p7, p8, p9, p10⟩ := F1
                have g3 := g2.alloc (.cells (Fx.cells ⟨kind, ⟨y1, y2, ycmd, yk, ypf, yns, ynr, yinf⟩, data, timer⟩).toArray TFx)
                have hki : (k : Int) < (n : Int) := by omega
                have HG := Lib.hid hgat
                have HNO := Lib.hid hno
                have HC := Lib.hid hct
                clear hy hil g2 hgat hno hct HT
                go_upto_region 23 with fail
                generalize wr.alloc _ = wa at *
                generalize wr.heap.size = ga at *
                have c0 := g3.cell
                clear p0 p1 p2 p3 p4 p5 p6 p7 p8 p9 p10
                by_cases kT : kind = 3
                · obtain ⟨hm1, hx4, hx2, hc0⟩ := HG.out kT
                  subst kT hc0
                  have hvw := hview X GA.out.ok.b.fl
                  unfold En.view at hvw
                  rw [hx4, hx2] at hvw
                  have hwk := en_wakes w wa _ (fun w' h => HO4.out w' _ _ _ _ h) g3
                  have hmm := HM.out
                  have hcc : ((i + 0 : Nat) : Int) = (m : Int) + 1 := by omega
                  rw [hcc]
                  have hwm : IntKind.i64.wrap ((m : Int) + 1) = (m : Int) + 1 := by rw [IntKind.wrap_i64]; omega
                  clear HG HNO HC hx4 hx2 hcc hm1 hi hlt hlt2 hle hki hkn hk
                  have h0f := vw_f0
                  have h4f := vw_f4
                  by_cases n32 : 32 < a0
                  · obtain rfl : m = 32 := by omega
                    clear hmm hwm
                    go_wp2_with fail
                    refine hwk.mono ?_
                    rintro q u2 ⟨rfl, g4⟩
                    clear hwk c0 g3
                    go_wp2_with fail
                    refine (hvw _ _ g4.f3).mono ?_
                    rintro q u3 ⟨rfl, g5⟩
                    clear g4
                    go_wp2_with fail
                    refine (hvw _ _ g5).mono ?_
                    rintro q u4 ⟨rfl, g6⟩
                    go_wp2
                    go_ret
                    exact ⟨rfl, g6.drop.drop.drop.drop.old0⟩
                  · by_cases n1 : 1 < a0
                    · obtain rfl : a0 = (m : Int) := by omega
                      clear hmm
                      go_wp2_with fail
                      refine hwk.mono ?_
                      rintro q u2 ⟨rfl, g4⟩
                      clear hwk c0 g3
                      go_wp2_with fail
                      refine (hvw _ _ g4.f3).mono ?_
                      rintro q u3 ⟨rfl, g5⟩
                      clear g4
                      go_wp2_with fail
                      refine (hvw _ _ g5).mono ?_
                      rintro q u4 ⟨rfl, g6⟩
                      go_wp2
                      go_ret
                      exact ⟨rfl, g6.drop.drop.drop.drop.old0⟩
                    · obtain rfl : m = 1 := by omega
                      clear hmm hwm
                      go_wp2_with fail
                      refine hwk.mono ?_
                      rintro q u2 ⟨rfl, g4⟩
                      clear hwk c0 g3
                      go_wp2_with fail
                      refine (hvw _ _ g4.f3).mono ?_
                      rintro q u3 ⟨rfl, g5⟩
                      clear g4
                      go_wp2_with fail
                      refine (hvw _ _ g5).mono ?_
                      rintro q u4 ⟨rfl, g6⟩
                      go_wp2
                      go_ret
                      exact ⟨rfl, g6.drop.drop.drop.drop.old0⟩
                · have bT : (kind == 3) = false := by simpa using kT
                  by_cases k0 : kind = 0
                  · subst k0
                    by_cases yK : yk = 4
                    · subst yK
                      go_wp2
                      go_roundw
                      case rel => exact ⟨k + 1, by omega, by go_num, by rw [HC.out]; go_num, Lib.hid (HNO.out kT), g3.drop⟩
                      case measure => simp [intOf]; omega
                    · have bK : (yk == 4) = false := by simpa using yK
                      go_wp2
                      go_roundw
                      case rel => exact ⟨k + 1, by omega, by go_num, by rw [HC.out, bK]; go_num, Lib.hid (HNO.out kT), g3.drop⟩
                      case measure => simp [intOf]; omega
                  · have b0 : (kind == 0) = false := by simpa using k0
                    go_wp2
                    go_roundw
                    case rel => exact ⟨k + 1, by omega, by go_num, by rw [HC.out, b0]; go_num, Lib.hid (HNO.out kT), g3.drop⟩
                    case measure => simp [intOf]; omega
              · obtain rfl : k = n := by omega
                have hno : ∀ z ∈ L, z.kind ≠ 3 := by
                  have := HT.out
                  rw [← HN.out, List.take_length] at this
                  exact this
                obtain ⟨him, hcn⟩ := give_all GA.out hno
                have htk : L.take k = L := by rw [← HN.out]; exact List.take_length
                rw [htk, hcn]
                have GN := Lib.hid (give_step (Or.inl ⟨rfl, rfl, rfl⟩) GA.out hno)
                have gk := GA.out.ok
                have go := GA.out.out
                have hl : X.out.length ≤ 95000 := by rw [go]; decide
                have htr : 0 ≤ X.tries ∧ X.tries ≤ 1000 := ⟨gk.b.tr0, by have := gk.b.trm; have := gk.b.m32; omega⟩
                have hta := e_timeout e X 200 gk.b.fl (Or.inl rfl) (kok 200 (by decide) (by decide)) htr hl w wr _ g2.f2
                have hln2 := timeout_len X (by unfold Out; rw [go]; exact Nat.le_refl _) 200
                generalize X.timeout 200 = Z at *
                obtain ⟨Z, L2⟩ := Z
                simp only [] at hta hln2 GN
                clear htr hl gk go hno htk hcn GA HT g2
                go_wp2_with fail
                refine hta.mono ?_
                rintro q v6 ⟨va, rfl, g4⟩
                clear hta
                go_wp2
                go_roundw
                case rel => exact ⟨i + 1, Z, L2, by omega, by go_num, by go_num, GN, hln2, g4.eq (show _ = LAt TFx 11 Fx.cells (.slice la k ca) L * _ by ac_rfl) |>.drop⟩
                case measure => simp [intOf]; omega
    | true =>
      clear hcall
      have hak := hakA 1
      have hln := hlnA 1
      clear hakA hlnA
      generalize y.ask 1 noStr = Y at *
      obtain ⟨Y, L0, C0⟩ := Y
      simp only [] at hak hln hrel
      go_wp2_with fail
      refine (hvw _ _ h3).mono ?_
      rintro q v4 ⟨rfl, h4⟩
      clear h3
      have h5 := h4.alloc (.cells #[.int .i64 s, .int .i64 y.tei, .int .i64 y.tries, .bool y.asked, .bool y.t2, .bool y.t3, .int .i64 y.units.length, .int .i64 y.fl.vs, .int .i64 y.fl.va, .int .i64 y.fl.vr, .bool y.fl.peer, .bool y.fl.own, .bool y.fl.refused, .int .i64 y.fl.q.sent, .int .i64 ((y.fl.q.l.length : Int) - y.fl.q.sent)] 43)
      clear h4
      go_upto_region 7 with fail
      generalize v4.alloc _ = v5 at *
      generalize v4.heap.size = gv at *
      have c := h5.cell
      have h6 := h5.drop
      by_cases s7 : s = 7
      · subst s7
        obtain ⟨ga, rfl⟩ := hrel (by omega)
        have GA := Lib.hid ga
        clear hrel ga h5
        go_wp2_with fail
        refine (hvw _ _ h6).mono ?_
        rintro q v6 ⟨rfl, hS⟩
        clear hvw h6 c
        go_wp2_with fail
        refine (hak _ _ hS).mono ?_
        rintro q u1 ⟨lv, rfl, g1⟩
        clear hak
        go_wp2
        go_loopw [14, 16, 60] (fun s14 s16 s60 wr => ∃ (i : Nat) (X : En) (L : List Fx), i ≤ 34 ∧ s60 = .int .i64 i ∧ s16 = .int .i64 i ∧ Hid (GiveA X L 7 4 6 i m) ∧ L.length ≤ 100000 ∧ St w wr (LAt TFx 11 Fx.cells s14 L * (EnAt e X * (RnAt r (x.setOut l) * Old w)))) (fun _ _ s60 _ => 34 - (intOf s60).toNat)
        case atStart => exact ⟨0, Y, L0, by omega, rfl, rfl, GA, hln, g1⟩
        case round =>
          clear g1 GA hln
          obtain ⟨i, X, L, hi, rfl, rfl, GA, hln, g1⟩ := hrel
          have hle := give_le GA.out
          have hlt : i < 34 := by omega
          have hlt2 : (i : Int) < 34 := by omega
          obtain ⟨la, ca, rfl, _, _⟩ := g1.l_shape
          obtain ⟨n, hn⟩ : ∃ n, L.length = n := ⟨_, rfl⟩
          rw [hn] at g1 hln ⊢
          have HN := Lib.hid hn
          clear hn
          go_wp2
          go_loopw [16, 64] (fun s16 s64 wr => ∃ k : Nat, k ≤ n ∧ s64 = .int .i64 k ∧ s16 = .int .i64 ((i + List.countP (sendK 7) (L.take k) : Nat) : Int) ∧ Hid (∀ z ∈ L.take k, z.kind ≠ 4) ∧ St w wr (LAt TFx 11 Fx.cells (.slice la n ca) L * (EnAt e X * (RnAt r (x.setOut l) * Old w)))) (fun _ s64 _ => n - (intOf s64).toNat)
          case atStart => exact ⟨0, by omega, rfl, rfl, Lib.hid (fun z hz => by simp at hz), g1⟩
          case round =>
            clear g1
            obtain ⟨k, hk, rfl, rfl, HT, g2⟩ := hrel
            by_cases hkn : k < n
            · have hil : k < L.length := by rw [HN.out]; exact hkn
              obtain ⟨y, hy⟩ : ∃ y, L[k]? = some y := ⟨L[k], List.getElem?_eq_getElem hil⟩
              obtain ⟨g, o, rfl⟩ : ∃ g o, la = some ⟨g, o, none⟩ := by
                rcases g2.l_cells tyFx.len with ⟨h0, _⟩ | ⟨g, o, cp, hv, _⟩
                · rw [h0] at hil; simp at hil
                · simp only [Value.slice.injEq] at hv; exact ⟨g, o, hv.1⟩
              have hgat := fun e => give_at GA.out (by decide) hy e HT.out
              have hno := take_no hy HT.out
              have hct := take_cnt 7 hy
              have hcl : List.countP (sendK 7) (L.take k) ≤ n := Nat.le_trans List.countP_le_length (by rw [List.length_take]; omega)
              have F1 := fx_one g2 k y hy
              unfold FxOne at F1
              unfold sendK at hct
              rw [show (fun y : Fx => y.kind == 0 && y.fr.kind == 7) = sendK 7 from rfl] at hct
              generalize List.countP (sendK 7) (L.take k) = c at *
              obtain ⟨kind, ⟨y1, y2, ycmd, yk, ypf, yns, ynr, yinf⟩, data, timer⟩ := y
              simp only [] at hgat hno hct
              obtain ⟨p0, p1, p2, p3, p4, p5, p6, p7, p8, p9, p10⟩ := F1
              have g3 := g2.alloc (.cells (Fx.cells ⟨kind, ⟨y1, y2, ycmd, yk, ypf, yns, ynr, yinf⟩, data, timer⟩).toArray TFx)
              have hki : (k : Int) < (n : Int) := by omega
              have HG := Lib.hid hgat
              have HNO := Lib.hid hno
              have HC := Lib.hid hct
              clear hy hil g2 hgat hno hct HT
              go_upto_region 23 with fail
              generalize wr.alloc _ = wa at *
              generalize wr.heap.size = ga at *
              have c0 := g3.cell
              clear p0 p1 p2 p3 p4 p5 p6 p7 p8 p9 p10
              by_cases kT : kind = 4
              · obtain ⟨hm1, hx4, hx2, hc0⟩ := HG.out kT
                subst kT hc0
                have hvw := hview X GA.out.ok.b.fl
                unfold En.view at hvw
                rw [hx4, hx2] at hvw
                have hwk := en_wakes w wa _ (fun w' h => HO4.out w' _ _ _ _ h) g3
                have hmm := HM.out
                have hcc : ((i + 0 : Nat) : Int) = (m : Int) + 1 := by omega
                rw [hcc]
                have hwm : IntKind.i64.wrap ((m : Int) + 1) = (m : Int) + 1 := by rw [IntKind.wrap_i64]; omega
                clear HG HNO HC hx4 hx2 hcc hm1 hi hlt hlt2 hle hki hkn hk
                have h0f := vw_f0
                have h4f := vw_f4
                by_cases n32 : 32 < a0
                · obtain rfl : m = 32 := by omega
                  clear hmm hwm
                  go_wp2_with fail
                  refine hwk.mono ?_
                  rintro q u2 ⟨rfl, g4⟩
                  clear hwk c0 g3
                  go_wp2_with fail
                  refine (hvw _ _ g4.f3).mono ?_
                  rintro q u3 ⟨rfl, g5⟩
                  clear g4
                  go_wp2_with fail
                  refine (hvw _ _ g5).mono ?_
                  rintro q u4 ⟨rfl, g6⟩
                  go_wp2
                  go_ret
                  exact ⟨rfl, g6.drop.drop.drop.drop.old0⟩
                · by_cases n1 : 1 < a0
                  · obtain rfl : a0 = (m : Int) := by omega
                    clear hmm
                    go_wp2_with fail
                    refine hwk.mono ?_
                    rintro q u2 ⟨rfl, g4⟩
                    clear hwk c0 g3
                    go_wp2_with fail
                    refine (hvw _ _ g4.f3).mono ?_
                    rintro q u3 ⟨rfl, g5⟩
                    clear g4
                    go_wp2_with fail
                    refine (hvw _ _ g5).mono ?_
                    rintro q u4 ⟨rfl, g6⟩
                    go_wp2
                    go_ret
                    exact ⟨rfl, g6.drop.drop.drop.drop.old0⟩
                  · obtain rfl : m = 1 := by omega
                    clear hmm hwm
                    go_wp2_with fail
                    refine hwk.mono ?_
                    rintro q u2 ⟨rfl, g4⟩
                    clear hwk c0 g3
                    go_wp2_with fail
                    refine (hvw _ _ g4.f3).mono ?_
                    rintro q u3 ⟨rfl, g5⟩
                    clear g4
                    go_wp2_with fail
                    refine (hvw _ _ g5).mono ?_
                    rintro q u4 ⟨rfl, g6⟩
                    go_wp2
                    go_ret
                    exact ⟨rfl, g6.drop.drop.drop.drop.old0⟩
              · have bT : (kind == 4) = false := by simpa using kT
                by_cases k0 : kind = 0
                · subst k0
                  by_cases yK : yk = 7
                  · subst yK
                    go_wp2
                    go_roundw
                    case rel => exact ⟨k + 1, by omega, by go_num, by rw [HC.out]; go_num, Lib.hid (HNO.out kT), g3.drop⟩
                    case measure => simp [intOf]; omega
                  · have bK : (yk == 7) = false := by simpa using yK
                    go_wp2
                    go_roundw
                    case rel => exact ⟨k + 1, by omega, by go_num, by rw [HC.out, bK]; go_num, Lib.hid (HNO.out kT), g3.drop⟩
                    case measure => simp [intOf]; omega
                · have b0 : (kind == 0) = false := by simpa using k0
                  go_wp2
                  go_roundw
                  case rel => exact ⟨k + 1, by omega, by go_num, by rw [HC.out, b0]; go_num, Lib.hid (HNO.out kT), g3.drop⟩
                  case measure => simp [intOf]; omega
            · obtain rfl : k = n := by omega
              have hno : ∀ z ∈ L, z.kind ≠ 4 := by
                have := HT.out
                rw [← HN.out, List.take_length] at this
                exact this
              obtain ⟨him, hcn⟩ := give_all GA.out hno
              have htk : L.take k = L := by rw [← HN.out]; exact List.take_length
              rw [htk, hcn]
              have GN := Lib.hid (give_step (Or.inr ⟨rfl, rfl, rfl⟩) GA.out hno)
              have gk := GA.out.ok
              have go := GA.out.out
              have hl : X.out.length ≤ 95000 := by rw [go]; decide
              have htr : 0 ≤ X.tries ∧ X.tries ≤ 1000 := ⟨gk.b.tr0, by have := gk.b.trm; have := gk.b.m32; omega⟩
              have hta := e_timeout e X 200 gk.b.fl (Or.inl rfl) (kok 200 (by decide) (by decide)) htr hl w wr _ g2.f2
              have hln2 := timeout_len X (by unfold Out; rw [go]; exact Nat.le_refl _) 200
              generalize X.timeout 200 = Z at *
              obtain ⟨Z, L2⟩ := Z
              simp only [] at hta hln2 GN
              clear htr hl gk go hno htk hcn GA HT g2
              go_wp2_with fail
              refine hta.mono ?_
              rintro q v6 ⟨va, rfl, g4⟩
              clear hta
              go_wp2
              go_roundw
              case rel => exact ⟨i + 1, Z, L2, by omega, by go_num, by go_num, GN, hln2, g4.eq (show _ = LAt TFx 11 Fx.cells (.slice la k ca) L * _ by ac_rfl) |>.drop⟩
              case measure => simp [intOf]; omega
      · by_cases s8 : s = 8
        · subst s8
          obtain ⟨ga, rfl⟩ := hrel (by omega)
          have GA := Lib.hid ga
          clear hrel ga h5
          go_wp2_with fail
          refine (hvw _ _ h6).mono ?_
          rintro q v6 ⟨rfl, hS⟩
          clear hvw h6 c
          go_wp2_with fail
          refine (hak _ _ hS).mono ?_
          rintro q u1 ⟨lv, rfl, g1⟩
          clear hak
          go_wp2
          go_loopw [14, 16, 60] (fun s14 s16 s60 wr => ∃ (i : Nat) (X : En) (L : List Fx), i ≤ 34 ∧ s60 = .int .i64 i ∧ s16 = .int .i64 i ∧ Hid (GiveA X L 7 4 6 i m) ∧ L.length ≤ 100000 ∧ St w wr (LAt TFx 11 Fx.cells s14 L * (EnAt e X * (RnAt r (x.setOut l) * Old w)))) (fun _ _ s60 _ => 34 - (intOf s60).toNat)
          case atStart => exact ⟨0, Y, L0, by omega, rfl, rfl, GA, hln, g1⟩
          case round =>
            clear g1 GA hln
            obtain ⟨i, X, L, hi, rfl, rfl, GA, hln, g1⟩ := hrel
            have hle := give_le GA.out
            have hlt : i < 34 := by omega
            have hlt2 : (i : Int) < 34 := by omega
            obtain ⟨la, ca, rfl, _, _⟩ := g1.l_shape
            obtain ⟨n, hn⟩ : ∃ n, L.length = n := ⟨_, rfl⟩
            rw [hn] at g1 hln ⊢
            have HN := Lib.hid hn
            clear hn
            go_wp2
            go_loopw [16, 64] (fun s16 s64 wr => ∃ k : Nat, k ≤ n ∧ s64 = .int .i64 k ∧ s16 = .int .i64 ((i + List.countP (sendK 7) (L.take k) : Nat) : Int) ∧ Hid (∀ z ∈ L.take k, z.kind ≠ 4) ∧ St w wr (LAt TFx 11 Fx.cells (.slice la n ca) L * (EnAt e X * (RnAt r (x.setOut l) * Old w)))) (fun _ s64 _ => n - (intOf s64).toNat)
            case atStart => exact ⟨0, by omega, rfl, rfl, Lib.hid (fun z hz => by simp at hz), g1⟩
            case round =>
              clear g1
              obtain ⟨k, hk, rfl, rfl, HT, g2⟩ := hrel
              by_cases hkn : k < n
              · have hil : k < L.length := by rw [HN.out]; exact hkn
                obtain ⟨y, hy⟩ : ∃ y, L[k]? = some y := ⟨L[k], List.getElem?_eq_getElem hil⟩
                obtain ⟨g, o, rfl⟩ : ∃ g o, la = some ⟨g, o, none⟩ := by
                  rcases g2.l_cells tyFx.len with ⟨h0, _⟩ | ⟨g, o, cp, hv, _⟩
                  · rw [h0] at hil; simp at hil
                  · simp only [Value.slice.injEq] at hv; exact ⟨g, o, hv.1⟩
                have hgat := fun e => give_at GA.out (by decide) hy e HT.out
                have hno := take_no hy HT.out
                have hct := take_cnt 7 hy
                have hcl : List.countP (sendK 7) (L.take k) ≤ n := Nat.le_trans List.countP_le_length (by rw [List.length_take]; omega)
                have F1 := fx_one g2 k y hy
                unfold FxOne at F1
                unfold sendK at hct
                rw [show (fun y : Fx => y.kind == 0 && y.fr.kind == 7) = sendK 7 from rfl] at hct
                generalize List.countP (sendK 7) (L.take k) = c at *
                obtain ⟨kind, ⟨y1, y2, ycmd, yk, ypf, yns, ynr, yinf⟩, data, timer⟩ := y
                simp only [] at hgat hno hct
                obtain ⟨p0, p1, p2, p3, p4, p5, p6, p7, p8, p9, p10⟩ := F1
                have g3 := g2.alloc (.cells (Fx.cells ⟨kind, ⟨y1, y2, ycmd, yk, ypf, yns, ynr, yinf⟩, data, timer⟩).toArray TFx)
                have hki : (k : Int) < (n : Int) := by omega
                have HG := Lib.hid hgat
                have HNO := Lib.hid hno
                have HC := Lib.hid hct
                clear hy hil g2 hgat hno hct HT
                go_upto_region 23 with fail
                generalize wr.alloc _ = wa at *
                generalize wr.heap.size = ga at *
                have c0 := g3.cell
                clear p0 p1 p2 p3 p4 p5 p6 p7 p8 p9 p10
                by_cases kT : kind = 4
                · obtain ⟨hm1, hx4, hx2, hc0⟩ := HG.out kT
                  subst kT hc0
                  have hvw := hview X GA.out.ok.b.fl
                  unfold En.view at hvw
                  rw [hx4, hx2] at hvw
                  have hwk := en_wakes w wa _ (fun w' h => HO4.out w' _ _ _ _ h) g3
                  have hmm := HM.out
                  have hcc : ((i + 0 : Nat) : Int) = (m : Int) + 1 := by omega
                  rw [hcc]
                  have hwm : IntKind.i64.wrap ((m : Int) + 1) = (m : Int) + 1 := by rw [IntKind.wrap_i64]; omega
                  clear HG HNO HC hx4 hx2 hcc hm1 hi hlt hlt2 hle hki hkn hk
                  have h0f := vw_f0
                  have h4f := vw_f4
                  by_cases n32 : 32 < a0
                  · obtain rfl : m = 32 := by omega
                    clear hmm hwm
                    go_wp2_with fail
                    refine hwk.mono ?_
                    rintro q u2 ⟨rfl, g4⟩
                    clear hwk c0 g3
                    go_wp2_with fail
                    refine (hvw _ _ g4.f3).mono ?_
                    rintro q u3 ⟨rfl, g5⟩
                    clear g4
                    go_wp2_with fail
                    refine (hvw _ _ g5).mono ?_
                    rintro q u4 ⟨rfl, g6⟩
                    go_wp2
                    go_ret
                    exact ⟨rfl, g6.drop.drop.drop.drop.old0⟩
                  · by_cases n1 : 1 < a0
                    · obtain rfl : a0 = (m : Int) := by omega
                      clear hmm
                      go_wp2_with fail
                      refine hwk.mono ?_
                      rintro q u2 ⟨rfl, g4⟩
                      clear hwk c0 g3
                      go_wp2_with fail
                      refine (hvw _ _ g4.f3).mono ?_
                      rintro q u3 ⟨rfl, g5⟩
                      clear g4
                      go_wp2_with fail
                      refine (hvw _ _ g5).mono ?_
                      rintro q u4 ⟨rfl, g6⟩
                      go_wp2
                      go_ret
                      exact ⟨rfl, g6.drop.drop.drop.drop.old0⟩
                    · obtain rfl : m = 1 := by omega
                      clear hmm hwm
                      go_wp2_with fail
                      refine hwk.mono ?_
                      rintro q u2 ⟨rfl, g4⟩
                      clear hwk c0 g3
                      go_wp2_with fail
                      refine (hvw _ _ g4.f3).mono ?_
                      rintro q u3 ⟨rfl, g5⟩
                      clear g4
                      go_wp2_with fail
                      refine (hvw _ _ g5).mono ?_
                      rintro q u4 ⟨rfl, g6⟩
                      go_wp2
                      go_ret
                      exact ⟨rfl, g6.drop.drop.drop.drop.old0⟩
                · have bT : (kind == 4) = false := by simpa using kT
                  by_cases k0 : kind = 0
                  · subst k0
                    by_cases yK : yk = 7
                    · subst yK
                      go_wp2
                      go_roundw
                      case rel => exact ⟨k + 1, by omega, by go_num, by rw [HC.out]; go_num, Lib.hid (HNO.out kT), g3.drop⟩
                      case measure => simp [intOf]; omega
                    · have bK : (yk == 7) = false := by simpa using yK
                      go_wp2
                      go_roundw
                      case rel => exact ⟨k + 1, by omega, by go_num, by rw [HC.out, bK]; go_num, Lib.hid (HNO.out kT), g3.drop⟩
                      case measure => simp [intOf]; omega
                  · have b0 : (kind == 0) = false := by simpa using k0
                    go_wp2
                    go_roundw
                    case rel => exact ⟨k + 1, by omega, by go_num, by rw [HC.out, b0]; go_num, Lib.hid (HNO.out kT), g3.drop⟩
                    case measure => simp [intOf]; omega
              · obtain rfl : k = n := by omega
                have hno : ∀ z ∈ L, z.kind ≠ 4 := by
                  have := HT.out
                  rw [← HN.out, List.take_length] at this
                  exact this
                obtain ⟨him, hcn⟩ := give_all GA.out hno
                have htk : L.take k = L := by rw [← HN.out]; exact List.take_length
                rw [htk, hcn]
                have GN := Lib.hid (give_step (Or.inr ⟨rfl, rfl, rfl⟩) GA.out hno)
                have gk := GA.out.ok
                have go := GA.out.out
                have hl : X.out.length ≤ 95000 := by rw [go]; decide
                have htr : 0 ≤ X.tries ∧ X.tries ≤ 1000 := ⟨gk.b.tr0, by have := gk.b.trm; have := gk.b.m32; omega⟩
                have hta := e_timeout e X 200 gk.b.fl (Or.inl rfl) (kok 200 (by decide) (by decide)) htr hl w wr _ g2.f2
                have hln2 := timeout_len X (by unfold Out; rw [go]; exact Nat.le_refl _) 200
                generalize X.timeout 200 = Z at *
                obtain ⟨Z, L2⟩ := Z
                simp only [] at hta hln2 GN
                clear htr hl gk go hno htk hcn GA HT g2
                go_wp2_with fail
                refine hta.mono ?_
                rintro q v6 ⟨va, rfl, g4⟩
                clear hta
                go_wp2
                go_roundw
                case rel => exact ⟨i + 1, Z, L2, by omega, by go_num, by go_num, GN, hln2, g4.eq (show _ = LAt TFx 11 Fx.cells (.slice la k ca) L * _ by ac_rfl) |>.drop⟩
                case measure => simp [intOf]; omega
        · have b7 : (s == 7) = false := by simpa using s7
          have b8 : (s == 8) = false := by simpa using s8
          have c7 : (s != 7) = true := by simpa using s7
          have c8 : (s != 8) = true := by simpa using s8
          clear hrel hak h5 hvw
          go_wp2_with fail
          refine (en_wakes w _ _ (fun w' h => HO.out w' _ _ h) h6).mono ?_
          rintro q v9 ⟨rfl, h9⟩
          go_wp2
          go_ret
          exact ⟨rfl, h9.drop.drop.old0⟩
end Go.Proofs.YtoophfokbioaaaaGreatDoor
