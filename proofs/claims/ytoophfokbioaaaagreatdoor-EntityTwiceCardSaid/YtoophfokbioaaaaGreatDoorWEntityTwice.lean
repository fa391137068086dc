/- EntityTwice: the walk. -/
import Derived.Test.YtoophfokbioaaaaGreatDoorFxEq
namespace Go.Proofs.YtoophfokbioaaaaGreatDoor
open Go.RowKit

set_option maxRecDepth 100000 in
set_option maxHeartbeats 3200000 in
theorem EntityTwice.walk (a0 : Int) (a1 : Int) (a2 : Option Addr) (len2 cap2 : Nat) (w : World) (hN : NamesAt w) (_ : (Lit.int .i64 a0).wf = true) (_ : (Lit.int .i64 a1).wf = true) (w2 : (Sh.slice acSh).ok w [.slice a2 len2 cap2]) :
    Calls Tryz.prog 6 #[.int .i64 a0, .int .i64 a1, .slice a2 len2 cap2] w fun e w' => e = .returned (.bool true) ∧ Below w.heap.size w w' := by
  obtain ⟨l1, l2, f, l3⟩ := script_fn w2
  clear w2
  have hO : ∀ w' (A : HP), St w w' (A * Old w) → NamesAt w' := fun w' A h => hN.old (h.eq (show _ = Old w * A by ac_rfl)).old hN.pos
  obtain ⟨x, hx⟩ : ∃ x, En.acts f (min len2 60) (newEn a0 a1) = x := ⟨_, rfl⟩
  have ok := acts_ok f (newEn a0 a1) ⟨ok_new a0 a1, rfl⟩ (min len2 60)
  rw [hx] at ok
  have hca := l_after a0 a1 a2 len2 cap2 f w w 1 l1 l2 l3 hN ((St.start w).eq (one_star _).symm)
  have hcb := fun v R h => l_after a0 a1 a2 len2 cap2 f w v R l1 l2 l3 hN h
  rw [hx] at hca hcb
  clear hN hx l1 l2 l3
  have HO := Lib.hid hO
  have OK := Lib.hid ok
  clear hO ok
  go_enter Tryz.func6, Tryz.ntmps6
  go_wp2_with fail
  refine hca.mono ?_
  rintro q v1 ⟨e, r, l, rfl, h1⟩
  clear hca
  have hc := hcb v1 (EnAt e x * RnAt r (x.setOut l)) (h1.eq (by rw [one_star]; ac_rfl))
  clear hcb
  go_wp2_with fail
  refine hc.mono ?_
  rintro q v2 ⟨e2, r2, l', rfl, h2⟩
  clear hc h1
  have h3 : St w v2 (EnAt e x * (EnAt e2 x * ((RnAt r (x.setOut l) * RnAt r2 (x.setOut l')) * Old w))) := h2.eq (by ac_rfl)
  clear h2
  generalize RnAt r (x.setOut l) * RnAt r2 (x.setOut l') = RR at *
  have hw := en_wakes w v2 _ (fun w' h => HO.out w' (EnAt e x * (EnAt e2 x * RR)) (h.eq (by ac_rfl))) h3
  clear h3
  go_wp2_with fail
  refine hw.mono ?_
  rintro q v3 ⟨rfl, h4⟩
  clear hw
  have hgv := env_guard
  have hsv := env_self x
  have hva := e_view e x OK.out.1.b.fl w v3 _ h4
  have hvb := fun v R h => e_view e2 x OK.out.1.b.fl w v R h
  generalize x.view = V at *
  clear h4
  go_wp2_with fail
  refine hva.mono ?_
  rintro q v4 ⟨rfl, h5⟩
  clear hva
  have hc := hvb v4 _ h5.f2
  clear hvb
  go_wp2_with fail
  refine hc.mono ?_
  rintro q v5 ⟨rfl, h6⟩
  clear hc h5
  have htr : 0 ≤ x.tries ∧ x.tries ≤ 1000 := ⟨OK.out.1.b.tr0, by have := OK.out.1.b.trm; have := OK.out.1.b.m32; omega⟩
  have hl : x.out.length ≤ 95000 := by rw [OK.out.2]; decide
  have hta := e_timeout e x 200 OK.out.1.b.fl (Or.inl rfl) (kok 200 (by decide) (by decide)) htr hl w v5 _ h6.f2
  have htb := fun v R h => e_timeout e2 x 200 OK.out.1.b.fl (Or.inl rfl) (kok 200 (by decide) (by decide)) htr hl w v R h
  have hln := timeout_len x (by unfold Out; rw [OK.out.2]; exact Nat.le_refl _) 200
  have OK2 := Lib.hid (ok_timeout OK.out.1 200)
  generalize x.timeout 200 = X at *
  obtain ⟨X, L⟩ := X
  simp only [] at hta htb OK2 hln
  clear htr hl h6
  go_wp2_with fail
  clear hsv hgv
  refine hta.mono ?_
  rintro q v6 ⟨va, rfl, h7⟩
  clear hta
  have hc := htb v6 _ h7.f3
  clear htb
  go_wp2_with fail
  refine hc.mono ?_
  rintro q v7 ⟨vb, rfl, h8⟩
  clear hc h7
  have h9 : St w v7 (LAt TFx 11 Fx.cells va L * (LAt TFx 11 Fx.cells vb L * (EnAt e X * (EnAt e2 X * (RR * Old w))))) := h8.eq (by ac_rfl)
  clear h8
  obtain ⟨la, ca, rfl, _, _⟩ := h9.l_shape
  obtain ⟨lb, cb, rfl, _, _⟩ := h9.f2.l_shape
  obtain ⟨n, hn⟩ : ∃ n, L.length = n := ⟨_, rfl⟩
  rw [hn] at h9 hln ⊢
  have HN := Lib.hid hn
  have q5 : ((n : Int) != (n : Int)) = false := by simp
  clear hn
  have hgx := fx_guard
  have hsx := fx_same
  go_wp2
  go_loopw [48] (fun s wr => ∃ k : Nat, k ≤ n ∧ s = .int .i64 k ∧ St w wr (LAt TFx 11 Fx.cells (.slice la n ca) L * (LAt TFx 11 Fx.cells (.slice lb n cb) L * (EnAt e X * (EnAt e2 X * (RR * Old w)))))) (fun s _ => n - (intOf s).toNat)
  case atStart => exact ⟨0, by omega, rfl, h9⟩
  case round =>
    clear h9
    obtain ⟨k, hk, rfl, h9⟩ := hrel
    by_cases hlt : k < n
    · have hil : k < L.length := by rw [HN.out]; exact hlt
      obtain ⟨y, hy⟩ : ∃ y, L[k]? = some y := ⟨L[k], List.getElem?_eq_getElem hil⟩
      obtain ⟨g1, o1, rfl⟩ : ∃ g o, la = some ⟨g, o, none⟩ := by
        rcases h9.l_cells tyFx.len with ⟨h0, _⟩ | ⟨g, o, cp, hv, _⟩
        · rw [h0] at hil; simp at hil
        · simp only [Value.slice.injEq] at hv; exact ⟨g, o, hv.1⟩
      obtain ⟨g2, o2, rfl⟩ : ∃ g o, lb = some ⟨g, o, none⟩ := by
        rcases h9.f2.l_cells tyFx.len with ⟨h0, _⟩ | ⟨g, o, cp, hv, _⟩
        · rw [h0] at hil; simp at hil
        · simp only [Value.slice.injEq] at hv; exact ⟨g, o, hv.1⟩
      have hki : (k : Int) < (n : Int) := by omega
      have F1 := fx_one h9 k y hy
      have F2 := fx_one h9.f2 k y hy
      have hse := hsx y
      unfold FxOne at F1 F2
      obtain ⟨kind, ⟨y1, y2, ycmd, yk, ypf, yns, ynr, yinf⟩, data, timer⟩ := y
      obtain ⟨p0, p1, p2, p3, p4, p5, p6, p7, p8, p9, p10⟩ := F1
      obtain ⟨r0, r1, r2, r3, r4, r5, r6, r7, r8, r9, r10⟩ := F2
      have H9 := Lib.hid h9
      clear hy hil h9 hsx
      go_upto_region 11 with fail
      go_quiet (fail)
      go_wp2
      go_roundw
      case rel => exact ⟨k + 1, by omega, by go_num, H9.out.drewN _⟩
      case measure => simp [intOf]; omega
    · have hva := e_view e X OK2.out.b.fl w wr _ h9.f3
      have hvb := fun v R h => e_view e2 X OK2.out.b.fl w v R h
      have hsv := env_self X
      have hgv := env_guard
      generalize X.view = V2 at *
      clear h9 hsx hgx
      go_wp2_with fail
      refine hva.mono ?_
      rintro q v8 ⟨rfl, h10⟩
      clear hva
      have hc := hvb v8 _ h10.f4
      clear hvb
      go_wp2_with fail
      refine hc.mono ?_
      rintro q v9 ⟨rfl, h11⟩
      clear hc
      go_wp2
      go_ret
      exact ⟨rfl, h11.drop.drop.drop.drop.drop.old0⟩
end Go.Proofs.YtoophfokbioaaaaGreatDoor
