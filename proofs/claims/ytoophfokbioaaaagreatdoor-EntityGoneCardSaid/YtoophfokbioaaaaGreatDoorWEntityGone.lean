/- EntityGone: the walk. -/
import Derived.Test.YtoophfokbioaaaaGreatDoorFxEq
import Derived.Test.YtoophfokbioaaaaGreatDoorGoneP
namespace Go.Proofs.YtoophfokbioaaaaGreatDoor
open Go.RowKit

theorem low_act {x : En} (ok : x.Ok) (h : x.Low) (a : AcE) : (x.act a).1.Low := by
  unfold En.act
  split
  · exact low_ask ok h _ _
  · split
    · exact low_timeout ok h _
    · split
      · exact low_assign ok h _
      · split
        · exact low_remove h
        · exact low_frame ok h _
theorem acts_low (f : Nat → AcE) (x : En) (ok : x.Ok ∧ x.out = []) (h : x.Low) : ∀ n, (En.acts f n x).Low
  | 0 => h
  | n + 1 => low_act (acts_ok f x ok n).1 (acts_low f x ok h n) _
theorem view_f0 (s t r u a b c g h : Int) (k m n x y z : Bool) (w : World) :
    (Instr.field 43 (.agg #[.int .i64 s, .int .i64 t, .int .i64 r, .bool k, .bool m, .bool n, .int .i64 u, .int .i64 a, .int .i64 b, .int .i64 c, .bool x, .bool y, .bool z, .int .i64 g, .int .i64 h]) 0).run Tryz.prog w = .ok (.int .i64 s) w := by kernel_rfl

set_option maxRecDepth 100000 in
set_option maxHeartbeats 3200000 in
theorem EntityGone.walk (a0 : Int) (a1 : Option Addr) (len1 cap1 : Nat) (w : World) (hN : NamesAt w) (_ : (Lit.int .i64 a0).wf = true) (w1 : (Sh.slice acSh).ok w [.slice a1 len1 cap1]) :
    Calls Tryz.prog 8 #[.int .i64 a0, .slice a1 len1 cap1] w fun e w' => e = .returned (.bool true) ∧ Below w.heap.size w w' := by
  obtain ⟨l1, l2, f, l3⟩ := script_fn w1
  clear w1
  have hO : ∀ w' (A : HP), St w w' (A * Old w) → NamesAt w' := fun w' A h => hN.old (h.eq (show _ = Old w * A by ac_rfl)).old hN.pos
  obtain ⟨x, hx⟩ : ∃ x, En.acts f (min len1 60) (newEn a0 3) = x := ⟨_, rfl⟩
  have ok := acts_ok f (newEn a0 3) ⟨ok_new a0 3, rfl⟩ (min len1 60)
  have low := acts_low f (newEn a0 3) ⟨ok_new a0 3, rfl⟩ (fun _ => ⟨rfl, rfl, rfl, rfl, rfl, fun _ => rfl⟩) (min len1 60)
  rw [hx] at ok low
  have hca := l_after a0 3 a1 len1 cap1 f w w 1 l1 l2 l3 hN ((St.start w).eq (one_star _).symm)
  rw [hx] at hca
  clear hN hx l1 l2 l3
  have HO := Lib.hid (show ∀ w' (A B C D : HP), St w w' (A * (B * (C * (D * Old w)))) → NamesAt w' from fun w' A B C D h => hO w' (A * (B * (C * D))) (h.eq (by simp only [star_assoc])))
  have OK := Lib.hid ok
  have hgo := gone_out ok.2 ok.1
  have hgl := gone_low low ok.1
  have hln := remove_len x (by unfold Out; rw [ok.2]; exact Nat.le_refl _)
  have ok' := ok_remove ok.1
  clear hO ok low
  go_enter Tryz.func8, Tryz.ntmps8
  go_wp2_with fail
  refine hca.mono ?_
  rintro q v1 ⟨e, r, l, rfl, h1⟩
  clear hca
  have h2 : St w v1 (EnAt e x * (RnAt r (x.setOut l) * Old w)) := h1.eq (by rw [one_star])
  clear h1
  have hva := e_view e x OK.out.1.b.fl w v1 _ h2
  have hrm := fun v R h => e_remove e x OK.out.1.b.fl OK.out.2 w v R h
  unfold En.view at hva
  have hf0 := view_f0
  obtain ⟨s, hs⟩ : ∃ s, x.state = s := ⟨_, rfl⟩
  rw [hs] at hva hgo hgl
  clear hs h2
  generalize x.remove = X at *
  obtain ⟨X, L, C⟩ := X
  simp only [] at hgo hgl hln ok' hrm
  go_wp2_with fail
  refine hva.mono ?_
  rintro q v2 ⟨rfl, h3⟩
  clear hva
  have hc := hrm v2 _ h3
  clear hrm
  go_wp2_with fail
  refine hc.mono ?_
  rintro q v3 ⟨vl, rfl, h4⟩
  clear hc h3 hf0
  obtain ⟨la, ca, rfl, _, _⟩ := h4.l_shape
  obtain ⟨n, hn⟩ : ∃ n, L.length = n := ⟨_, rfl⟩
  rw [hn] at h4 hln ⊢
  have HN := Lib.hid hn
  have GO := Lib.hid hgo
  have GL := Lib.hid hgl
  have OK2 := Lib.hid ok'
  clear hn hgo hgl ok'
  go_wp2
  go_loopw [10, 31] (fun s10 s wr => ∃ k : Nat, k ≤ n ∧ s10 = .int .i64 (List.countP endK (L.take k)) ∧ s = .int .i64 k ∧ St w wr (LAt TFx 11 Fx.cells (.slice la n ca) L * (EnAt e X * (RnAt r (x.setOut l) * Old w)))) (fun _ s _ => n - (intOf s).toNat)
  case atStart => exact ⟨0, by omega, rfl, rfl, h4⟩
  case round =>
    clear h4
    obtain ⟨k, hk, rfl, rfl, h5⟩ := hrel
    by_cases hlt : k < n
    · have hil : k < L.length := by rw [HN.out]; exact hlt
      obtain ⟨y, hy⟩ : ∃ y, L[k]? = some y := ⟨L[k], List.getElem?_eq_getElem hil⟩
      obtain ⟨g1, o1, rfl⟩ : ∃ g o, la = some ⟨g, o, none⟩ := by
        rcases h5.l_cells tyFx.len with ⟨h0, _⟩ | ⟨g, o, cp, hv, _⟩
        · rw [h0] at hil; simp at hil
        · simp only [Value.slice.injEq] at hv; exact ⟨g, o, hv.1⟩
      have hcnt : List.countP endK (L.take (k + 1)) = List.countP endK (L.take k) + (if endK y = true then 1 else 0) := by
        rw [List.take_add_one, hy, Option.toList_some, List.countP_append, List.countP_singleton]
      have hle : List.countP endK (L.take k) ≤ n := Nat.le_trans List.countP_le_length (by rw [List.length_take]; omega)
      have hkd := GO.out.1 y (List.mem_of_getElem? hy)
      have F1 := fx_one h5 k y hy
      unfold FxOne at F1
      unfold endK at hcnt
      rw [show (fun y : Fx => y.kind == 3 || y.kind == 4) = endK from rfl] at hcnt
      generalize List.countP endK (L.take k) = c at *
      obtain ⟨kind, ⟨y1, y2, ycmd, yk, ypf, yns, ynr, yinf⟩, data, timer⟩ := y
      simp only [] at hkd hcnt
      obtain ⟨p0, p1, p2, p3, p4, p5, p6, p7, p8, p9, p10⟩ := F1
      have h6 := h5.alloc (.cells (Fx.cells ⟨kind, ⟨y1, y2, ycmd, yk, ypf, yns, ynr, yinf⟩, data, timer⟩).toArray TFx)
      have hki : (k : Int) < (n : Int) := by omega
      have HC := Lib.hid hcnt
      have b0 : (kind == 0) = false := by simpa using hkd.1
      have b9 : (kind == 9) = false := by simpa using hkd.2
      clear hy hil h5 hcnt hkd
      go_upto_region 8 with fail
      generalize wr.alloc _ = wa at *
      generalize wr.heap.size = ga at *
      have c0 := h6.cell
      clear p0 p1 p2 p3 p4 p5 p6 p7 p8 p9 p10
      by_cases k3 : kind = 3
      · subst k3
        go_wp2
        go_roundw
        case rel => exact ⟨k + 1, by omega, by rw [HC.out]; go_num, by go_num, h6.drop⟩
        case measure => simp [intOf]; omega
      · by_cases k4 : kind = 4
        · subst k4
          go_wp2
          go_roundw
          case rel => exact ⟨k + 1, by omega, by rw [HC.out]; go_num, by go_num, h6.drop⟩
          case measure => simp [intOf]; omega
        · have b3 : (kind == 3) = false := by simpa using k3
          have b4 : (kind == 4) = false := by simpa using k4
          clear k3 k4
          go_wp2
          go_roundw
          case rel => exact ⟨k + 1, by omega, by rw [HC.out, b3, b4]; go_num, by go_num, h6.drop⟩
          case measure => simp [intOf]; omega
    · obtain rfl : k = n := by omega
      have htk : L.take k = L := by rw [← HN.out]; exact List.take_length
      have hcn := GO.out.2
      rw [htk, hcn]
      obtain ⟨N, hNV⟩ : ∃ N : Nat, (if 5 ≤ s ∨ s = 3 then 1 else 0) = N := ⟨_, rfl⟩
      rw [hNV]
      have HV := Lib.hid hNV
      clear hNV
      have hv := e_view e X OK2.out.b.fl w wr _ h5.f2
      obtain ⟨g1, g2, g3, g4, g5, g6, g7, g8⟩ := GL.out
      unfold En.view at hv
      rw [g1, g2, g3, g4, g5, g6, g7] at hv
      have e0 : ((0 : Nat) : Int) = 0 := rfl
      simp only [List.length_nil, e0, Int.sub_zero] at hv
      clear e0
      have hin := OK.out.1
      have s1 := hin.s1
      have s8 := hin.s8
      clear htk hcn h5 hin g1 g2 g3 g4 g5 g6 g7
      generalize X.tries = xt at *
      generalize X.asked = xa at *
      generalize (X.fl.vs : Int) = xvs at *
      generalize (X.fl.va : Int) = xva at *
      generalize (X.fl.vr : Int) = xvr at *
      generalize X.fl.peer = xp at *
      generalize X.fl.own = xo at *
      generalize X.fl.refused = xr at *
      go_wp2_with fail
      refine hv.mono ?_
      rintro q v5 ⟨rfl, h6⟩
      clear hv
      have h7 := h6.alloc (.cells #[.int .i64 1, .int .i64 (-1), .int .i64 xt, .bool xa, .bool false, .bool false, .int .i64 0, .int .i64 xvs, .int .i64 xva, .int .i64 xvr, .bool xp, .bool xo, .bool xr, .int .i64 0, .int .i64 0] 43)
      clear h6
      go_upto_region 14 with fail
      generalize v5.alloc _ = wb at *
      generalize v5.heap.size = gb at *
      have hwk := en_wakes w wb _ (fun w' h => HO.out w' _ _ _ _ h) h7
      have c0 := h7.cell
      have hv := HV.out
      clear HV
      by_cases s5 : 5 ≤ s
      · rw [if_pos (Or.inl s5)] at hv
        subst hv
        have n11 : (C == 11) = false := by simpa using fun e => absurd (g8.1 e) (by omega)
        have n1 : (s == 1) = false := by simp; omega
        have b5 : decide (s ≥ 5) = true := by simpa using s5
        clear h7 g8 s8
        go_wp2_with fail
        refine hwk.mono ?_
        rintro q v6 ⟨rfl, h8⟩
        clear hwk c0
        have c := h8.cell
        go_wp2
        go_ret
        exact ⟨rfl, (h8.eq (show _ = Old w * (blk gb _ * (EnAt e X * (LAt TFx 11 Fx.cells _ L * RnAt r (x.setOut l)))) by ac_rfl)).old⟩
      · by_cases s3 : s = 3
        · subst s3
          rw [if_pos (Or.inr rfl)] at hv
          subst hv
          have n11 : (C == 11) = false := by simpa using fun e => absurd (g8.1 e) (by decide)
          clear h7 g8 s8
          go_wp2_with fail
          refine hwk.mono ?_
          rintro q v6 ⟨rfl, h8⟩
          clear hwk c0
          have c := h8.cell
          go_wp2
          go_ret
          exact ⟨rfl, (h8.eq (show _ = Old w * (blk gb _ * (EnAt e X * (LAt TFx 11 Fx.cells _ L * RnAt r (x.setOut l)))) by ac_rfl)).old⟩
        · rw [if_neg (by omega)] at hv
          subst hv
          have n3 : (s == 3) = false := by simpa using s3
          have b5 : decide (s ≥ 5) = false := by simpa using s5
          by_cases s1 : s = 1
          · obtain rfl := g8.2 s1
            subst s1
            clear h7 g8 s8
            go_wp2_with fail
            refine hwk.mono ?_
            rintro q v6 ⟨rfl, h8⟩
            clear hwk c0
            have c := h8.cell
            go_wp2
            go_ret
            exact ⟨rfl, (h8.eq (show _ = Old w * (blk gb _ * (EnAt e X * (LAt TFx 11 Fx.cells _ L * RnAt r (x.setOut l)))) by ac_rfl)).old⟩
          · have n1 : (s == 1) = false := by simpa using s1
            have n11 : (C == 11) = false := by simpa using fun e => s1 (g8.1 e)
            clear h7 g8 s8
            go_wp2_with fail
            refine hwk.mono ?_
            rintro q v6 ⟨rfl, h8⟩
            clear hwk c0
            have c := h8.cell
            go_wp2
            go_ret
            exact ⟨rfl, (h8.eq (show _ = Old w * (blk gb _ * (EnAt e X * (LAt TFx 11 Fx.cells _ L * RnAt r (x.setOut l)))) by ac_rfl)).old⟩
end Go.Proofs.YtoophfokbioaaaaGreatDoor
