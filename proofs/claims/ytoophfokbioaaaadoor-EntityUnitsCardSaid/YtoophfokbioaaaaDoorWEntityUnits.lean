/- EntityUnits: the walk. -/
import Derived.Test.YtoophfokbioaaaaDoorEntY
import Derived.Test.YtoophfokbioaaaaDoorUnitP
namespace Go.Proofs.YtoophfokbioaaaaDoor
open Go.RowKit

theorem str_fn {w : World} {a : Option Addr} {len cap : Nat} (h : (Sh.slice .string).ok w [.slice a len cap]) : len ≤ cap ∧ cap ≤ maxLen ∧ (0 < len → ∃ b off, a = some ⟨b, off, none⟩ ∧ b < w.heap.size ∧
    ∀ i, i < len → ∃ s : ByteArray, w.cell? ⟨b, off + i, none⟩ = some (.string s)) := by
  obtain ⟨h1, h2, h3⟩ := Sh.slice_ok h (by decide)
  refine ⟨h1, h2, fun h0 => ?_⟩
  obtain ⟨b, off, ha, hb, hi⟩ := h3 h0
  refine ⟨b, off, ha, hb, fun i hil => ?_⟩
  obtain ⟨xs, _, hc, hx⟩ := hi i hil
  obtain ⟨s, rfl, _⟩ := hx
  refine ⟨s, ?_⟩
  have := hc 0 (by decide)
  rw [show off + i = off + i * Sh.size .string + 0 from by show off + i = off + i * 1 + 0; omega]
  exact this
theorem vw_f6 (s t r u a b c g h : Int) (k m n x y z : Bool) (w : World) : (Instr.field 36 (.agg #[.int .i64 s, .int .i64 t, .int .i64 r, .bool k, .bool m, .bool n, .int .i64 u, .int .i64 a, .int .i64 b, .int .i64 c, .bool x, .bool y, .bool z, .int .i64 g, .int .i64 h]) 6).run Tryd.prog w = .ok (.int .i64 u) w := by kernel_rfl
theorem str_one {w0 w : World} {R : HP} {g o c n : Nat} {l : List ByteArray} (h : St w0 w (LAt 9 1 encS (.slice (some ⟨g, o, none⟩) n c) l * R)) (i : Nat) (s : ByteArray) (hs : l[i]? = some s) : w.cell? ⟨g, o + i, none⟩ = some (.string s) := by
  have hi : i < l.length := (List.getElem?_eq_some_iff.1 hs).1
  have := h.row_cell (i * 1 + 0) (by have := Nat.mul_le_mul_right 1 (show i + 1 ≤ l.length from hi); omega)
  rw [encs_at tyStr.len l i s 0 hs (by decide)] at this
  rw [show o + i = o + (i * 1 + 0) by omega]
  exact this
/-- the cells of an effect of a list -/
def FxOne (w : World) (g o : Nat) (x : Fx) : Prop := w.cell? ⟨g, o, none⟩ = some (Value.int .i64 x.kind) ∧ w.cell? ⟨g, o + 1, none⟩ = some (Value.int .i64 x.fr.sapi) ∧ w.cell? ⟨g, o + 2, none⟩ = some (Value.int .i64 x.fr.tei) ∧ w.cell? ⟨g, o + 3, none⟩ = some (Value.bool x.fr.cmd) ∧ w.cell? ⟨g, o + 4, none⟩ = some (Value.int .i64 x.fr.kind) ∧ w.cell? ⟨g, o + 5, none⟩ = some (Value.bool x.fr.pf) ∧ w.cell? ⟨g, o + 6, none⟩ = some (Value.int .i64 x.fr.ns) ∧ w.cell? ⟨g, o + 7, none⟩ = some (Value.int .i64 x.fr.nr) ∧ w.cell? ⟨g, o + 8, none⟩ = some (Value.string x.fr.info) ∧ w.cell? ⟨g, o + 9, none⟩ = some (Value.string x.data) ∧ w.cell? ⟨g, o + 10, none⟩ = some (Value.int .i64 x.timer)
theorem fx_one {w0 w : World} {R : HP} {g o c n : Nat} {l : List Fx} (h : St w0 w (LAt TFx 11 Fx.cells (.slice (some ⟨g, o, none⟩) n c) l * R)) (i : Nat) (x : Fx) (hx : l[i]? = some x) : FxOne w g (o + i * 11) x := by
  have hi : i < l.length := (List.getElem?_eq_some_iff.1 hx).1
  have key : ∀ j, j < 11 → w.cell? ⟨g, o + (i * 11 + j), none⟩ = x.cells[j]? := fun j hj => by
    have := h.row_cell (i * 11 + j) (by have := Nat.mul_le_mul_right 11 (show i + 1 ≤ l.length from hi); omega)
    rw [this, encs_at tyFx.len l i x j hx hj]
  unfold FxOne
  exact ⟨key 0 (by decide), key 1 (by decide), key 2 (by decide), key 3 (by decide), key 4 (by decide), key 5 (by decide), key 6 (by decide), key 7 (by decide), key 8 (by decide), key 9 (by decide), key 10 (by decide)⟩

set_option maxRecDepth 100000 in
set_option maxHeartbeats 3200000 in
theorem EntityUnits.walk (a0 : Option Addr) (len0 cap0 : Nat) (a1 : Int) (a2 : Bool) (w : World) (hN : NamesAt w) (w0 : (Sh.slice .string).ok w [.slice a0 len0 cap0]) (_ : (Lit.int .i64 a1).wf = true) :
    Calls Tryd.prog 3 #[.slice a0 len0 cap0, .int .i64 a1, .bool a2] w fun e w' => e = .returned (.bool true) ∧ Below w.heap.size w w' := by
  obtain ⟨l1, l2, l3⟩ := str_fn w0
  clear w0
  unfold maxLen at l2
  have hO : ∀ w' (A : HP), St w w' (A * Old w) → NamesAt w' := fun w' A h => hN.old (h.eq (show _ = Old w * A by ac_rfl)).old hN.pos
  have HO := Lib.hid (show ∀ w' (A B C : HP), St w w' (A * (B * (C * Old w))) → NamesAt w' from fun w' A B C h => hO w' (A * (B * C)) (h.eq (by simp only [star_assoc])))
  obtain ⟨m, hM⟩ : ∃ m, min len0 300 = m := ⟨_, rfl⟩
  have hcn := e_new 7 3 w w _ (St.start w)
  clear hN hO
  go_enter Tryd.func3, Tryd.ntmps3
  go_wp2_with fail
  refine hcn.mono ?_
  rintro q v1 ⟨e, rfl, h1⟩
  clear hcn
  go_upto_region 3 with fail
  go_cut [25, 26, 27] (fun s33 s34 s35 wx => s33 = .slice a0 m cap0 ∧ s34 = .int .i64 m ∧ s35 = .int .i64 0 ∧ v1 = wx)
  case first =>
    go_wp2
    all_goals (go_meet; refine ⟨?_, ?_, rfl, rfl⟩ <;> (first | rfl | (congr 1; omega) | (rw [show len0 = m by omega]) | (rw [show m = 300 by omega]; rfl)))
  case rest =>
    obtain ⟨rfl, rfl, rfl, rfl⟩ := hcut
    have hml : m ≤ len0 := by omega
    clear hM
    have h2 := (show St w v1 (EnAt e (uE []) * Old w) from h1).l_nil 9 1 encS
    clear h1
    go_wp2
    go_loopw [8, 27] (fun s8 s27 wr => ∃ (i : Nat) (want : List ByteArray), i ≤ m ∧ want.length ≤ 256 ∧ s27 = .int .i64 i ∧ St w wr (LAt 9 1 encS s8 want * (EnAt e (uE want) * Old w))) (fun _ s27 _ => m - (intOf s27).toNat)
    case atStart => exact ⟨0, [], by omega, by simp, rfl, h2⟩
    case round =>
      clear h2
      obtain ⟨i, want, hi, hw, rfl, h3⟩ := hrel
      by_cases hlt : i < m
      · obtain ⟨b, off, rfl, hb, hs⟩ := l3 (by omega)
        obtain ⟨s, hsc⟩ := hs i (by omega)
        have hbel := (h3.eq (show _ = Old w * (LAt 9 1 encS u8 want * EnAt e (uE want)) by ac_rfl)).old
        have d0 := (hbel.cell (p := ⟨b, off + i, none⟩) hb).trans hsc
        obtain ⟨ua, uc, rfl, _, _⟩ := h3.l_shape
        obtain ⟨n, hn⟩ : ∃ n, want.length = n := ⟨_, rfl⟩
        rw [hn] at h3 hw ⊢
        have HN := Lib.hid hn
        have hc := e_ask e (uE want) 3 s (ok_new 7 3).b.fl (by show (0 : Nat) ≤ 98990; decide) rfl w wr _ h3.f2
        have hmi : (i : Int) < (m : Int) := by omega
        clear hbel hsc hs h3 l3
        obtain ⟨z, hz⟩ : ∃ z, s.size = z := ⟨_, rfl⟩
        by_cases hf : s.size ≤ 260 ∧ want.length < 256
        · rw [u_ask_fit hf.1 hf.2] at hc
          have hz2 := hf
          rw [hz, hn] at hz2
          obtain ⟨hf1, hf2⟩ := hz2
          have bz : decide ((z : Int) ≤ 260) = true := by simp; omega
          have bn : decide ((n : Int) < 256) = true := by simp; omega
          by_cases n0 : n = 0
          · have hw0 : want = [] := List.length_eq_zero_iff.1 (hn.trans n0)
            rw [if_pos hw0] at hc
            subst n0
            clear hn hf hw0
            go_upto_region 11 with (go_at_call 6; refine hc.mono ?_; rintro q v2 ⟨lv, rfl, h4⟩; clear hc d0; obtain ⟨la, ca, rfl, _, _⟩ := h4.l_shape)
            have hA := (h4.drop.f2.alloc (.cells #[.string s] 9)).drop
            clear h4
            go_wp2_with (at_builtin; refine wp_append_elem rfl (.tmp 62) (.tmp 64) rfl tyStr hA s rfl _ rfl (new_cells _ [.string s] _ _ (by simp)) (by have := HN.out; omega) ?hk1; (case' hk1 => (intro g off cap w8 h8)))
            go_roundw
            case rel => exact ⟨i + 1, want ++ [s], by omega, by have := HN.out; simp; omega, by go_num, h8⟩
            case measure => simp [intOf]; omega
          · have hw0 : want ≠ [] := fun e => n0 (by rw [← hn, e]; rfl)
            rw [if_neg hw0] at hc
            have b0 : ((n : Int) == 0) = false := by simp; omega
            clear hn hf hw0
            go_upto_region 11 with (go_at_call 6; refine hc.mono ?_; rintro q v2 ⟨lv, rfl, h4⟩; clear hc d0; obtain ⟨la, ca, rfl, _, _⟩ := h4.l_shape)
            have hA := (h4.drop.f2.alloc (.cells #[.string s] 9)).drop
            clear h4
            go_wp2_with (at_builtin; refine wp_append_elem rfl (.tmp 62) (.tmp 64) rfl tyStr hA s rfl _ rfl (new_cells _ [.string s] _ _ (by simp)) (by have := HN.out; omega) ?hk2; (case' hk2 => (intro g off cap w8 h8)))
            go_roundw
            case rel => exact ⟨i + 1, want ++ [s], by omega, by have := HN.out; simp; omega, by go_num, h8⟩
            case measure => simp [intOf]; omega
        · obtain ⟨c, hc0, hce⟩ := u_ask_not hf
          rw [hce] at hc
          rw [hz, hn] at hf
          have bc : (c == 0) = false := by simpa using hc0
          clear hce hn hc0
          by_cases z2 : z ≤ 260
          · have bz : decide ((z : Int) ≤ 260) = true := by simp; omega
            have bn : decide ((n : Int) < 256) = false := by simp; omega
            clear hf
            go_wp2_with fail
            refine hc.mono ?_
            rintro q v2 ⟨lv, rfl, h4⟩
            clear hc d0
            obtain ⟨la, ca, rfl, _, _⟩ := h4.l_shape
            go_wp2
            go_roundw
            case rel => exact ⟨i + 1, want, by omega, by have := HN.out; omega, by go_num, h4.drop.f2⟩
            case measure => simp [intOf]; omega
          · have bz : decide ((z : Int) ≤ 260) = false := by simp; omega
            clear hf
            go_wp2_with fail
            refine hc.mono ?_
            rintro q v2 ⟨lv, rfl, h4⟩
            clear hc d0
            obtain ⟨la, ca, rfl, _, _⟩ := h4.l_shape
            go_wp2
            go_roundw
            case rel => exact ⟨i + 1, want, by omega, by have := HN.out; omega, by go_num, h4.drop.f2⟩
            case measure => simp [intOf]; omega
      · obtain rfl : i = m := by omega
        obtain ⟨ua, uc, rfl, _, _⟩ := h3.l_shape
        obtain ⟨n, hn⟩ : ∃ n, want.length = n := ⟨_, rfl⟩
        rw [hn] at h3 hw ⊢
        clear l3 hlt
        cases a2 with
        | true =>
          have hc := e_ask e (uE want) 0 noStr (ok_new 7 3).b.fl (by show (0 : Nat) ≤ 98990; decide) rfl w wr _ h3.f2
          rw [u_call] at hc
          have HN := Lib.hid hn
          clear h3 hn
          go_upto_region 15 with (go_at_call 6; refine hc.mono ?_; rintro q v2 ⟨lv, rfl, h4⟩; clear hc)
          have h5 := h4.drop
          clear h4
          go_cut [1] (fun s1 wx => (∃ t : Int, 0 ≤ t ∧ t ≤ 126 ∧ s1 = .int .i64 t) ∧ Hid (St w wx (EnAt e (uC true want) * (LAt 9 1 encS (.slice ua n uc) want * Old w))))
          case first =>
            have H5 := Lib.hid h5
            clear h5
            by_cases a10 : 0 < a1
            · have t0 : 0 ≤ a1.tmod 127 := Int.tmod_nonneg _ (by omega)
              have t1 : a1.tmod 127 < 127 := Int.tmod_lt_of_pos _ (by decide)
              obtain ⟨t, ht⟩ : ∃ t, a1.tmod 127 = t := ⟨_, rfl⟩
              rw [ht] at t0 t1
              go_wp2
              go_meet
              exact ⟨⟨t, t0, by omega, rfl⟩, H5⟩
            · go_wp2
              go_meet
              exact ⟨⟨0, by decide, by decide, rfl⟩, H5⟩
          case rest =>
            clear h5
            obtain ⟨⟨t, t0, t1, rfl⟩, hcut⟩ := hcut
            have h5 := hcut.out
            clear hcut
            obtain ⟨g1, g2, g3, g4⟩ := u_assign true want t t0 t1
            have xu : (uC true want).units.length = n := HN.out
            have xk : (uC true want).fl.Ok := (ok_new 7 3).b.fl
            have xo : (uC true want).out = [] := rfl
            generalize uC true want = X at *
            have hva := e_view e X xk w _ _ h5
            have has := fun v R h => e_assign e X t xk (by omega) (by rw [xo]; decide) w v R h
            unfold En.view at hva
            rw [xu] at hva
            generalize X.assign t = Z at *
            obtain ⟨Z, L, C⟩ := Z
            simp only [] at g1 g2 g3 g4 has
            subst g3
            have hf6 := vw_f6
            have zk : Z.fl.Ok := by rw [g4]; exact (ok_new 7 3).b.fl
            have hvz := fun v R h => e_view e Z zk w v R h
            unfold En.view at hvz
            rw [g2] at hvz
            obtain ⟨p, hpP⟩ : ∃ p : Nat, p = (n + 2) := ⟨_, rfl⟩
            have hp : L.length = p := by rw [hpP, g1, List.length_append, List.length_map, HN.out]; rfl
            have lt1 : decide (p < n) = false := by simp; omega
            have lt2 : decide (n < p) = true := by simp; omega
            have HPP := Lib.hid hpP
            have G1 := Lib.hid g1
            clear xk xo g1 g2 g4 zk h5
            go_wp2_with fail
            refine hva.mono ?_
            rintro q v3 ⟨rfl, h6⟩
            have hc := has v3 _ h6
            clear hva h6 has
            go_wp2_with fail
            refine hc.mono ?_
            rintro q v4 ⟨lv, rfl, h7⟩
            clear hc
            obtain ⟨la, ca, rfl, _, _⟩ := h7.l_shape
            rw [hp] at h7 ⊢
            have HLP := Lib.hid hp
            have hwk := en_wakes w v4 _ (fun w' h => HO.out w' _ _ _ h) h7
            clear h7 xu hp hpP
            go_wp2_with fail
            refine hwk.mono ?_
            rintro q v5 ⟨rfl, h8⟩
            clear hwk
            go_wp2
            go_loopw [109] (fun s wr => ∃ k : Nat, k ≤ n ∧ s = .int .i64 k ∧ St w wr (LAt TFx 11 Fx.cells (.slice la p ca) L * (EnAt e Z * (LAt 9 1 encS (.slice ua n uc) want * Old w)))) (fun s _ => n - (intOf s).toNat)
            case atStart => exact ⟨0, by omega, rfl, h8⟩
            case round =>
              clear h8
              obtain ⟨k, hk, rfl, h9⟩ := hrel
              by_cases hkn : k < n
              · have hil : k < want.length := by rw [HN.out]; exact hkn
                obtain ⟨s, hs⟩ : ∃ s, want[k]? = some s := ⟨want[k], List.getElem?_eq_getElem hil⟩
                have hLk : L[k]? = some (uFx t s) := by
                  rw [G1.out, List.getElem?_append_left (by rw [List.length_map]; exact hil), List.getElem?_map, hs]
                  rfl
                obtain ⟨g, o, rfl⟩ : ∃ g o, la = some ⟨g, o, none⟩ := by
                  rcases h9.l_cells tyFx.len with ⟨h0, _⟩ | ⟨g, o, cp, hv, _⟩
                  · rw [h0] at hLk; simp at hLk
                  · simp only [Value.slice.injEq] at hv; exact ⟨g, o, hv.1⟩
                obtain ⟨gs, os, rfl⟩ : ∃ g o, ua = some ⟨g, o, none⟩ := by
                  rcases h9.f3.l_cells tyStr.len with ⟨h0, _⟩ | ⟨g, o, cp, hv, _⟩
                  · rw [h0] at hil; simp at hil
                  · simp only [Value.slice.injEq] at hv; exact ⟨g, o, hv.1⟩
                have F1 := fx_one h9 k _ hLk
                have F2 := str_one h9.f3 k s hs
                unfold FxOne at F1
                dsimp only at F1
                obtain ⟨p0, p1, p2, p3, p4, p5, p6, p7, p8, p9, p10⟩ := F1
                have h10 := h9.alloc (.cells (Fr.cells ⟨0, t, true, 6, false, 0, 0, s⟩).toArray TFr)
                have hki : (k : Int) < (n : Int) := by omega
                have hkp : (k : Int) < (p : Int) := by have := HPP.out; omega
                clear hil hs hLk h9
                go_upto_region 25 with fail
                generalize wr.alloc _ = wa at *
                generalize wr.heap.size = ga at *
                clear p0 p1 p2 p3 p4 p5 p6 p7 p8 p9 p10 F2
                have c := h10.cell
                go_wp2
                go_roundw
                case rel => exact ⟨k + 1, by omega, by go_num, h10.drop⟩
                case measure => simp [intOf]; omega
              · obtain rfl : k = n := by omega
                have hc := hvz wr _ h9.f2
                have hLn : L[k]? = some (⟨0, ⟨0, t, true, 4, true, 0, 0, noStr⟩, noStr, 0⟩ : Fx) := by
                  rw [G1.out, List.getElem?_append_right (by rw [List.length_map, HN.out]; exact Nat.le_refl _), List.length_map, HN.out, Nat.sub_self]
                  rfl
                obtain ⟨g, o, rfl⟩ : ∃ g o, la = some ⟨g, o, none⟩ := by
                  rcases h9.l_cells tyFx.len with ⟨h0, _⟩ | ⟨g, o, cp, hv, _⟩
                  · rw [h0] at hLn; simp at hLn
                  · simp only [Value.slice.injEq] at hv; exact ⟨g, o, hv.1⟩
                clear hvz
                go_wp2_with fail
                refine hc.mono ?_
                rintro q v8 ⟨rfl, h10⟩
                have F1 := fx_one h10.f2 k _ hLn
                unfold FxOne at F1
                dsimp only at F1
                obtain ⟨p0, p1, p2, p3, p4, p5, p6, p7, p8, p9, p10⟩ := F1
                have hkp : (k : Int) < (p : Int) := by have := HPP.out; omega
                clear hLn hc h9
                go_wp2
                go_ret
                exact ⟨rfl, h10.drop.drop.drop.old0⟩
        | false =>
          have h5 : St w wr (EnAt e (uC false want) * (LAt 9 1 encS (.slice ua n uc) want * Old w)) := h3.f2
          have HN := Lib.hid hn
          clear h3 hn
          go_upto_region 15 with fail
          go_cut [1] (fun s1 wx => (∃ t : Int, 0 ≤ t ∧ t ≤ 126 ∧ s1 = .int .i64 t) ∧ Hid (St w wx (EnAt e (uC false want) * (LAt 9 1 encS (.slice ua n uc) want * Old w))))
          case first =>
            have H5 := Lib.hid h5
            clear h5
            by_cases a10 : 0 < a1
            · have t0 : 0 ≤ a1.tmod 127 := Int.tmod_nonneg _ (by omega)
              have t1 : a1.tmod 127 < 127 := Int.tmod_lt_of_pos _ (by decide)
              obtain ⟨t, ht⟩ : ∃ t, a1.tmod 127 = t := ⟨_, rfl⟩
              rw [ht] at t0 t1
              go_wp2
              go_meet
              exact ⟨⟨t, t0, by omega, rfl⟩, H5⟩
            · go_wp2
              go_meet
              exact ⟨⟨0, by decide, by decide, rfl⟩, H5⟩
          case rest =>
            clear h5
            obtain ⟨⟨t, t0, t1, rfl⟩, hcut⟩ := hcut
            have h5 := hcut.out
            clear hcut
            obtain ⟨g1, g2, g3, g4⟩ := u_assign false want t t0 t1
            have xu : (uC false want).units.length = n := HN.out
            have xk : (uC false want).fl.Ok := (ok_new 7 3).b.fl
            have xo : (uC false want).out = [] := rfl
            generalize uC false want = X at *
            have hva := e_view e X xk w _ _ h5
            have has := fun v R h => e_assign e X t xk (by omega) (by rw [xo]; decide) w v R h
            unfold En.view at hva
            rw [xu] at hva
            generalize X.assign t = Z at *
            obtain ⟨Z, L, C⟩ := Z
            simp only [] at g1 g2 g3 g4 has
            subst g3
            have hf6 := vw_f6
            have zk : Z.fl.Ok := by rw [g4]; exact (ok_new 7 3).b.fl
            have hvz := fun v R h => e_view e Z zk w v R h
            unfold En.view at hvz
            rw [g2] at hvz
            obtain ⟨p, hpP⟩ : ∃ p : Nat, p = n := ⟨_, rfl⟩
            have hp : L.length = p := by rw [hpP, g1, List.length_append, List.length_map, HN.out]; rfl
            have lt1 : decide (p < n) = false := by simp; omega
            have lt2 : decide (n < p) = false := by simp; omega
            have HPP := Lib.hid hpP
            have G1 := Lib.hid g1
            clear xk xo g1 g2 g4 zk h5
            go_wp2_with fail
            refine hva.mono ?_
            rintro q v3 ⟨rfl, h6⟩
            have hc := has v3 _ h6
            clear hva h6 has
            go_wp2_with fail
            refine hc.mono ?_
            rintro q v4 ⟨lv, rfl, h7⟩
            clear hc
            obtain ⟨la, ca, rfl, _, _⟩ := h7.l_shape
            rw [hp] at h7 ⊢
            have HLP := Lib.hid hp
            have hwk := en_wakes w v4 _ (fun w' h => HO.out w' _ _ _ h) h7
            clear h7 xu hp hpP
            go_wp2_with fail
            refine hwk.mono ?_
            rintro q v5 ⟨rfl, h8⟩
            clear hwk
            go_wp2
            go_loopw [109] (fun s wr => ∃ k : Nat, k ≤ n ∧ s = .int .i64 k ∧ St w wr (LAt TFx 11 Fx.cells (.slice la p ca) L * (EnAt e Z * (LAt 9 1 encS (.slice ua n uc) want * Old w)))) (fun s _ => n - (intOf s).toNat)
            case atStart => exact ⟨0, by omega, rfl, h8⟩
            case round =>
              clear h8
              obtain ⟨k, hk, rfl, h9⟩ := hrel
              by_cases hkn : k < n
              · have hil : k < want.length := by rw [HN.out]; exact hkn
                obtain ⟨s, hs⟩ : ∃ s, want[k]? = some s := ⟨want[k], List.getElem?_eq_getElem hil⟩
                have hLk : L[k]? = some (uFx t s) := by
                  rw [G1.out, List.getElem?_append_left (by rw [List.length_map]; exact hil), List.getElem?_map, hs]
                  rfl
                obtain ⟨g, o, rfl⟩ : ∃ g o, la = some ⟨g, o, none⟩ := by
                  rcases h9.l_cells tyFx.len with ⟨h0, _⟩ | ⟨g, o, cp, hv, _⟩
                  · rw [h0] at hLk; simp at hLk
                  · simp only [Value.slice.injEq] at hv; exact ⟨g, o, hv.1⟩
                obtain ⟨gs, os, rfl⟩ : ∃ g o, ua = some ⟨g, o, none⟩ := by
                  rcases h9.f3.l_cells tyStr.len with ⟨h0, _⟩ | ⟨g, o, cp, hv, _⟩
                  · rw [h0] at hil; simp at hil
                  · simp only [Value.slice.injEq] at hv; exact ⟨g, o, hv.1⟩
                have F1 := fx_one h9 k _ hLk
                have F2 := str_one h9.f3 k s hs
                unfold FxOne at F1
                dsimp only at F1
                obtain ⟨p0, p1, p2, p3, p4, p5, p6, p7, p8, p9, p10⟩ := F1
                have h10 := h9.alloc (.cells (Fr.cells ⟨0, t, true, 6, false, 0, 0, s⟩).toArray TFr)
                have hki : (k : Int) < (n : Int) := by omega
                have hkp : (k : Int) < (p : Int) := by have := HPP.out; omega
                clear hil hs hLk h9
                go_upto_region 25 with fail
                generalize wr.alloc _ = wa at *
                generalize wr.heap.size = ga at *
                clear p0 p1 p2 p3 p4 p5 p6 p7 p8 p9 p10 F2
                have c := h10.cell
                go_wp2
                go_roundw
                case rel => exact ⟨k + 1, by omega, by go_num, h10.drop⟩
                case measure => simp [intOf]; omega
              · obtain rfl : k = n := by omega
                have hc := hvz wr _ h9.f2
                clear hvz
                go_wp2_with fail
                refine hc.mono ?_
                rintro q v8 ⟨rfl, h10⟩
                go_wp2
                go_ret
                exact ⟨rfl, h10.drop.drop.drop.old0⟩
end Go.Proofs.YtoophfokbioaaaaDoor
