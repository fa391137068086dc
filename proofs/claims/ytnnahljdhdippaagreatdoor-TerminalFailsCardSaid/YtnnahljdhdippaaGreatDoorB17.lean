/- Messages of TEI management: teimsg.Frame, Of. -/
import Derived.Test.YtnnahljdhdippaaGreatDoorB16
namespace Go.Proofs.YtnnahljdhdippaaGreatDoor
open Go.RowKit

set_option maxRecDepth 100000 in
set_option maxHeartbeats 800000 in
theorem m_frame (m : Tm) (w0 w : World) (R : HP) (hL : ∀ w', St w0 w' R → LinkAt w') (h : St w0 w R) :
    Calls Tryz.prog 78 #[.agg m.cells.toArray] w fun e w' => e = .returned (.tuple #[.agg m.fr.cells.toArray, .int .i64 m.bad]) ∧ St w0 w' R := by
  have h1 := h.alloc (.cells #[.int .i64 m.ty, .int .i64 m.ri, .int .i64 m.ai] TTm)
  have h2 := h1.alloc (.cells #[.int .i64 0, .int .i64 0, .bool false, .int .i64 0, .bool false, .int .i64 0, .int .i64 0, .string ⟨#[]⟩] TFr)
  have hp := m_put m w0 _ _ h2
  have c1 := h2.f2.cell
  unfold Tm.fr
  by_cases hb : m.bad = 0
  · rw [if_pos hb]
    rw [hb] at hp ⊢
    obtain ⟨ty, ri, ai⟩ := m
    simp only [Tm.cells] at *
    generalize Tm.oct _ = oc at *
    clear hb
    go_enter Tryz.func78, Tryz.ntmps78
    go_upto_region 1 with fail
    simp only [World.size_alloc] at *
    generalize hg : w.heap.size = ga at *
    generalize (w.alloc _).alloc _ = wb at *
    go_wp2_with fail
    refine hp.mono ?_
    rintro e w5 ⟨rfl, h5⟩
    obtain ⟨l0, l1⟩ := hL _ h5.drop.drop
    have c5 := h5.cell
    have f5 := h5.free
    clear c1 hp h1 h2
    have h9 := ((((((((h5.set 0 (.int .i64 63)).set 1 (.int .i64 127)).set 2 (.bool true)).set 3 (.int .i64 6)).set 4 (.bool false)).set 5 (.int .i64 0)).set 6 (.int .i64 0)).set 7 (.string oc))
    go_wp2
    have cr := h9.cell
    refine bodyPost_ret (v := .tuple #[.agg #[.int .i64 63, .int .i64 127, .bool true, .int .i64 6, .bool false, .int .i64 0, .int .i64 0, .string oc], .int .i64 0]) (by simp [results, Tryz.results78, go_sem, cr]) rfl ⟨rfl, h9.drop.drop⟩
  · rw [if_neg hb]
    have qb : (m.bad != 0) = true := by simp [hb]
    generalize m.bad = bd at *
    obtain ⟨ty, ri, ai⟩ := m
    simp only [Tm.cells] at *
    generalize Tm.oct _ = oc at *
    clear hb
    go_enter Tryz.func78, Tryz.ntmps78
    go_upto_region 1 with fail
    simp only [World.size_alloc] at *
    generalize hg : w.heap.size = ga at *
    generalize (w.alloc _).alloc _ = wb at *
    go_wp2_with fail
    refine hp.mono ?_
    rintro e w5 ⟨rfl, h5⟩
    have c5 := h5.cell
    have f5 := h5.free
    clear c1 hp h1 h2
    have h9 := ((((((((h5.set 0 (.int .i64 0)).set 1 (.int .i64 0)).set 2 (.bool false)).set 3 (.int .i64 0)).set 4 (.bool false)).set 5 (.int .i64 0)).set 6 (.int .i64 0)).set 7 (.string ⟨#[]⟩))
    go_wp2
    have cr := h9.cell
    refine bodyPost_ret (v := .tuple #[.agg #[.int .i64 0, .int .i64 0, .bool false, .int .i64 0, .bool false, .int .i64 0, .int .i64 0, .string ⟨#[]⟩], .int .i64 bd]) (by simp [results, Tryz.results78, go_sem, cr]) rfl ⟨rfl, h9.drop.drop⟩
theorem lk_eq (a b a' b' : Int) (w : World) : (Op.equalIn 10000 73 (.agg #[.int .i64 a, .int .i64 b]) (.agg #[.int .i64 a', .int .i64 b'])).run Tryz.prog w = .ok (a == a' && b == b') w := by
  rw [run_equalIn_agg (P := Tryz.prog) w 9999 73 _ _ (by kernel_rfl) (by kernel_rfl)]
  go_simp
  repeat' split
  all_goals simp_all
theorem lk_guard (op : BinOp) (x y : Operand) (xs ys : Array Value) (w : World) : (eqGuard op 73 x y (.agg xs) (.agg ys)).run Tryz.prog w = .ok () w := run_eqGuard_agg (P := Tryz.prog) w op 73 x y xs ys (by kernel_rfl)
set_option maxRecDepth 100000 in
set_option maxHeartbeats 1600000 in
theorem m_of (f : Fr) (net : Bool) (w0 w : World) (R : HP) (hL : ∀ w', St w0 w' R → LinkAt w') (h : St w0 w R) (hs : f.info.size ≤ 1000000000) :
    Calls Tryz.prog 26 #[.agg f.cells.toArray, .bool net] w fun e w' => e = .returned (.tuple #[.agg (tmOf f net).1.cells.toArray, .bool (tmOf f net).2]) ∧ St w0 w' R := by
  obtain ⟨a1, a2, cmd, k, pf, ns, nr, inf⟩ := f
  simp only [] at *
  have h1 := h.alloc (.cells (Fr.cells ⟨a1, a2, cmd, k, pf, ns, nr, inf⟩).toArray TFr)
  have h2 := h1.alloc (.cells #[.int .i64 0, .int .i64 0, .int .i64 0] TTm)
  have hg1 := m_get inf w0 _ _ h2 hs
  have c1 := h2.f2.cell
  unfold tmOf
  dsimp only
  generalize tmG inf = C at *
  obtain ⟨⟨ty, ri, ai⟩, er⟩ := C
  simp only [Tm.cells, Fr.cells] at *
  have hf := fun w => t_from ty w
  generalize fromNet ty = fn at *
  have hlk := lk_eq a1 a2 63 127
  obtain ⟨V, hV⟩ : ∃ V, (if ¬ (a1 = 63 ∧ a2 = 127) ∨ k ≠ 6 ∨ cmd = false ∨ er ≠ 0 ∨ fn ≠ net then (Tm.zero, false) else (⟨ty, ri, ai⟩, true)) = V := ⟨_, rfl⟩
  rw [hV]
  by_cases b1 : a1 = 63 ∧ a2 = 127
  · rw [show (a1 == 63 && a2 == 127) = true by simp [b1.1, b1.2]] at hlk
    by_cases b2 : k = 6
    · have q2 : (k != 6) = false := by simp [b2]
      cases hcm : cmd with
      | false =>
        have HC : (¬ (a1 = 63 ∧ a2 = 127) ∨ k ≠ 6 ∨ cmd = false ∨ er ≠ 0 ∨ fn ≠ net) := .inr (.inr (.inl hcm))
        subst hcm
        clear b1 b2
        have HV := Lib.hid (And.intro HC hV)
        clear HC hV
        go_enter Tryz.func26, Tryz.ntmps26
        go_upto_region 1 with fail
        simp only [World.size_alloc] at *
        generalize hg : w.heap.size = gf at *
        generalize (w.alloc _).alloc _ = wb at *
        go_upto_region 2 with (go_at_call 61; refine hg1.mono ?_; rintro e w5 ⟨rfl, h5⟩)
        have lt1 := h5.lt
        have lt2 := h5.drop.lt
        have h6 := h5.alloc (.cells #[.int .i64 ty, .int .i64 ri, .int .i64 ai] TTm)
        have hl5 := hL _ h6.drop.drop.drop
        obtain ⟨l0, l1⟩ := hl5
        generalize w5.alloc _ = w6 at *
        generalize hgc : w5.heap.size = gc at *
        have ne1 : gc ≠ gf + 1 := by omega
        have ne2 : gf + 1 ≠ gc := by omega
        have ne3 : gc ≠ gf := by omega
        have ne4 : gf ≠ gc := by omega
        clear c1 hg1 h1 h2 h5 hL
        have c6 := h6.cell
        have c7 := h6.f2.cell
        have f7 := h6.f2.free
        have c8 := h6.f3.cell
        obtain ⟨HC, hV⟩ := HV.out
        clear HV
        have hV2 := (if_pos HC).symm.trans hV
        have h9 := (((h6.f2.set 0 (.int .i64 0)).set 1 (.int .i64 0)).set 2 (.int .i64 0))
        go_wp2_with (go_at_call 62; refine (hf _).mono ?_; rintro e w8 ⟨rfl, rfl⟩)
        have cr := h9.cell
        refine bodyPost_ret (v := .tuple #[.agg #[.int .i64 0, .int .i64 0, .int .i64 0], .bool false]) (by simp [results, Tryz.results26, go_sem, cr]) rfl ⟨by rw [← hV2], h9.drop.drop.drop⟩
      | true =>
        subst hcm
        by_cases b3 : er = 0
        · have q3 : (er != 0) = false := by simp [b3]
          have good : fn = net → (¬ (¬ (a1 = 63 ∧ a2 = 127) ∨ k ≠ 6 ∨ true = false ∨ er ≠ 0 ∨ fn ≠ net)) := fun b4 => by simp [b1.1, b1.2, b2, b3, b4]
          have bad : fn ≠ net → (¬ (a1 = 63 ∧ a2 = 127) ∨ k ≠ 6 ∨ true = false ∨ er ≠ 0 ∨ fn ≠ net) := fun b4 => .inr (.inr (.inr (.inr b4)))
          clear b1 b2 b3
          cases fn with
          | false =>
            cases net with
            | false =>
              have HV := Lib.hid (And.intro (good rfl) hV)
              clear good bad hV
              go_enter Tryz.func26, Tryz.ntmps26
              go_upto_region 1 with fail
              simp only [World.size_alloc] at *
              generalize hg : w.heap.size = gf at *
              generalize (w.alloc _).alloc _ = wb at *
              go_upto_region 2 with (go_at_call 61; refine hg1.mono ?_; rintro e w5 ⟨rfl, h5⟩)
              have lt1 := h5.lt
              have lt2 := h5.drop.lt
              have h6 := h5.alloc (.cells #[.int .i64 ty, .int .i64 ri, .int .i64 ai] TTm)
              have hl5 := hL _ h6.drop.drop.drop
              obtain ⟨l0, l1⟩ := hl5
              generalize w5.alloc _ = w6 at *
              generalize hgc : w5.heap.size = gc at *
              have ne1 : gc ≠ gf + 1 := by omega
              have ne2 : gf + 1 ≠ gc := by omega
              have ne3 : gc ≠ gf := by omega
              have ne4 : gf ≠ gc := by omega
              clear c1 hg1 h1 h2 h5 hL
              have c6 := h6.cell
              have c7 := h6.f2.cell
              have f7 := h6.f2.free
              have c8 := h6.f3.cell
              obtain ⟨HC, hV⟩ := HV.out
              clear HV
              have hV2 := (if_neg HC).symm.trans hV
              clear HC hV
              have h9 := (((h6.f2.set 0 (.int .i64 ty)).set 1 (.int .i64 ri)).set 2 (.int .i64 ai))
              go_wp2_with (go_at_call 62; refine (hf _).mono ?_; rintro e w8 ⟨rfl, rfl⟩)
              have cr := h9.cell
              refine bodyPost_ret (v := .tuple #[.agg #[.int .i64 ty, .int .i64 ri, .int .i64 ai], .bool true]) (by simp [results, Tryz.results26, go_sem, cr]) rfl ⟨by rw [← hV2], h9.drop.drop.drop⟩
            | true =>
              have HV := Lib.hid (And.intro (bad (by decide)) hV)
              clear good bad hV
              go_enter Tryz.func26, Tryz.ntmps26
              go_upto_region 1 with fail
              simp only [World.size_alloc] at *
              generalize hg : w.heap.size = gf at *
              generalize (w.alloc _).alloc _ = wb at *
              go_upto_region 2 with (go_at_call 61; refine hg1.mono ?_; rintro e w5 ⟨rfl, h5⟩)
              have lt1 := h5.lt
              have lt2 := h5.drop.lt
              have h6 := h5.alloc (.cells #[.int .i64 ty, .int .i64 ri, .int .i64 ai] TTm)
              have hl5 := hL _ h6.drop.drop.drop
              obtain ⟨l0, l1⟩ := hl5
              generalize w5.alloc _ = w6 at *
              generalize hgc : w5.heap.size = gc at *
              have ne1 : gc ≠ gf + 1 := by omega
              have ne2 : gf + 1 ≠ gc := by omega
              have ne3 : gc ≠ gf := by omega
              have ne4 : gf ≠ gc := by omega
              clear c1 hg1 h1 h2 h5 hL
              have c6 := h6.cell
              have c7 := h6.f2.cell
              have f7 := h6.f2.free
              have c8 := h6.f3.cell
              obtain ⟨HC, hV⟩ := HV.out
              clear HV
              have hV2 := (if_pos HC).symm.trans hV
              have h9 := (((h6.f2.set 0 (.int .i64 0)).set 1 (.int .i64 0)).set 2 (.int .i64 0))
              go_wp2_with (go_at_call 62; refine (hf _).mono ?_; rintro e w8 ⟨rfl, rfl⟩)
              have cr := h9.cell
              refine bodyPost_ret (v := .tuple #[.agg #[.int .i64 0, .int .i64 0, .int .i64 0], .bool false]) (by simp [results, Tryz.results26, go_sem, cr]) rfl ⟨by rw [← hV2], h9.drop.drop.drop⟩
          | true =>
            cases net with
            | false =>
              have HV := Lib.hid (And.intro (bad (by decide)) hV)
              clear good bad hV
              go_enter Tryz.func26, Tryz.ntmps26
              go_upto_region 1 with fail
              simp only [World.size_alloc] at *
              generalize hg : w.heap.size = gf at *
              generalize (w.alloc _).alloc _ = wb at *
              go_upto_region 2 with (go_at_call 61; refine hg1.mono ?_; rintro e w5 ⟨rfl, h5⟩)
              have lt1 := h5.lt
              have lt2 := h5.drop.lt
              have h6 := h5.alloc (.cells #[.int .i64 ty, .int .i64 ri, .int .i64 ai] TTm)
              have hl5 := hL _ h6.drop.drop.drop
              obtain ⟨l0, l1⟩ := hl5
              generalize w5.alloc _ = w6 at *
              generalize hgc : w5.heap.size = gc at *
              have ne1 : gc ≠ gf + 1 := by omega
              have ne2 : gf + 1 ≠ gc := by omega
              have ne3 : gc ≠ gf := by omega
              have ne4 : gf ≠ gc := by omega
              clear c1 hg1 h1 h2 h5 hL
              have c6 := h6.cell
              have c7 := h6.f2.cell
              have f7 := h6.f2.free
              have c8 := h6.f3.cell
              obtain ⟨HC, hV⟩ := HV.out
              clear HV
              have hV2 := (if_pos HC).symm.trans hV
              have h9 := (((h6.f2.set 0 (.int .i64 0)).set 1 (.int .i64 0)).set 2 (.int .i64 0))
              go_wp2_with (go_at_call 62; refine (hf _).mono ?_; rintro e w8 ⟨rfl, rfl⟩)
              have cr := h9.cell
              refine bodyPost_ret (v := .tuple #[.agg #[.int .i64 0, .int .i64 0, .int .i64 0], .bool false]) (by simp [results, Tryz.results26, go_sem, cr]) rfl ⟨by rw [← hV2], h9.drop.drop.drop⟩
            | true =>
              have HV := Lib.hid (And.intro (good rfl) hV)
              clear good bad hV
              go_enter Tryz.func26, Tryz.ntmps26
              go_upto_region 1 with fail
              simp only [World.size_alloc] at *
              generalize hg : w.heap.size = gf at *
              generalize (w.alloc _).alloc _ = wb at *
              go_upto_region 2 with (go_at_call 61; refine hg1.mono ?_; rintro e w5 ⟨rfl, h5⟩)
              have lt1 := h5.lt
              have lt2 := h5.drop.lt
              have h6 := h5.alloc (.cells #[.int .i64 ty, .int .i64 ri, .int .i64 ai] TTm)
              have hl5 := hL _ h6.drop.drop.drop
              obtain ⟨l0, l1⟩ := hl5
              generalize w5.alloc _ = w6 at *
              generalize hgc : w5.heap.size = gc at *
              have ne1 : gc ≠ gf + 1 := by omega
              have ne2 : gf + 1 ≠ gc := by omega
              have ne3 : gc ≠ gf := by omega
              have ne4 : gf ≠ gc := by omega
              clear c1 hg1 h1 h2 h5 hL
              have c6 := h6.cell
              have c7 := h6.f2.cell
              have f7 := h6.f2.free
              have c8 := h6.f3.cell
              obtain ⟨HC, hV⟩ := HV.out
              clear HV
              have hV2 := (if_neg HC).symm.trans hV
              clear HC hV
              have h9 := (((h6.f2.set 0 (.int .i64 ty)).set 1 (.int .i64 ri)).set 2 (.int .i64 ai))
              go_wp2_with (go_at_call 62; refine (hf _).mono ?_; rintro e w8 ⟨rfl, rfl⟩)
              have cr := h9.cell
              refine bodyPost_ret (v := .tuple #[.agg #[.int .i64 ty, .int .i64 ri, .int .i64 ai], .bool true]) (by simp [results, Tryz.results26, go_sem, cr]) rfl ⟨by rw [← hV2], h9.drop.drop.drop⟩
        · have q3 : (er != 0) = true := by simp [b3]
          have HC : (¬ (a1 = 63 ∧ a2 = 127) ∨ k ≠ 6 ∨ true = false ∨ er ≠ 0 ∨ fn ≠ net) := .inr (.inr (.inr (.inl b3)))
          clear b1 b2 b3
          have HV := Lib.hid (And.intro HC hV)
          clear HC hV
          go_enter Tryz.func26, Tryz.ntmps26
          go_upto_region 1 with fail
          simp only [World.size_alloc] at *
          generalize hg : w.heap.size = gf at *
          generalize (w.alloc _).alloc _ = wb at *
          go_upto_region 2 with (go_at_call 61; refine hg1.mono ?_; rintro e w5 ⟨rfl, h5⟩)
          have lt1 := h5.lt
          have lt2 := h5.drop.lt
          have h6 := h5.alloc (.cells #[.int .i64 ty, .int .i64 ri, .int .i64 ai] TTm)
          have hl5 := hL _ h6.drop.drop.drop
          obtain ⟨l0, l1⟩ := hl5
          generalize w5.alloc _ = w6 at *
          generalize hgc : w5.heap.size = gc at *
          have ne1 : gc ≠ gf + 1 := by omega
          have ne2 : gf + 1 ≠ gc := by omega
          have ne3 : gc ≠ gf := by omega
          have ne4 : gf ≠ gc := by omega
          clear c1 hg1 h1 h2 h5 hL
          have c6 := h6.cell
          have c7 := h6.f2.cell
          have f7 := h6.f2.free
          have c8 := h6.f3.cell
          obtain ⟨HC, hV⟩ := HV.out
          clear HV
          have hV2 := (if_pos HC).symm.trans hV
          have h9 := (((h6.f2.set 0 (.int .i64 0)).set 1 (.int .i64 0)).set 2 (.int .i64 0))
          go_wp2_with (go_at_call 62; refine (hf _).mono ?_; rintro e w8 ⟨rfl, rfl⟩)
          have cr := h9.cell
          refine bodyPost_ret (v := .tuple #[.agg #[.int .i64 0, .int .i64 0, .int .i64 0], .bool false]) (by simp [results, Tryz.results26, go_sem, cr]) rfl ⟨by rw [← hV2], h9.drop.drop.drop⟩
    · have q2 : (k != 6) = true := by simp [b2]
      have HC : (¬ (a1 = 63 ∧ a2 = 127) ∨ k ≠ 6 ∨ cmd = false ∨ er ≠ 0 ∨ fn ≠ net) := .inr (.inl b2)
      clear b1 b2
      have HV := Lib.hid (And.intro HC hV)
      clear HC hV
      go_enter Tryz.func26, Tryz.ntmps26
      go_upto_region 1 with fail
      simp only [World.size_alloc] at *
      generalize hg : w.heap.size = gf at *
      generalize (w.alloc _).alloc _ = wb at *
      go_upto_region 2 with (go_at_call 61; refine hg1.mono ?_; rintro e w5 ⟨rfl, h5⟩)
      have lt1 := h5.lt
      have lt2 := h5.drop.lt
      have h6 := h5.alloc (.cells #[.int .i64 ty, .int .i64 ri, .int .i64 ai] TTm)
      have hl5 := hL _ h6.drop.drop.drop
      obtain ⟨l0, l1⟩ := hl5
      generalize w5.alloc _ = w6 at *
      generalize hgc : w5.heap.size = gc at *
      have ne1 : gc ≠ gf + 1 := by omega
      have ne2 : gf + 1 ≠ gc := by omega
      have ne3 : gc ≠ gf := by omega
      have ne4 : gf ≠ gc := by omega
      clear c1 hg1 h1 h2 h5 hL
      have c6 := h6.cell
      have c7 := h6.f2.cell
      have f7 := h6.f2.free
      have c8 := h6.f3.cell
      obtain ⟨HC, hV⟩ := HV.out
      clear HV
      have hV2 := (if_pos HC).symm.trans hV
      have h9 := (((h6.f2.set 0 (.int .i64 0)).set 1 (.int .i64 0)).set 2 (.int .i64 0))
      go_wp2_with (go_at_call 62; refine (hf _).mono ?_; rintro e w8 ⟨rfl, rfl⟩)
      have cr := h9.cell
      refine bodyPost_ret (v := .tuple #[.agg #[.int .i64 0, .int .i64 0, .int .i64 0], .bool false]) (by simp [results, Tryz.results26, go_sem, cr]) rfl ⟨by rw [← hV2], h9.drop.drop.drop⟩
  · have q1 : (a1 == 63 && a2 == 127) = false := by simp; intro e; exact fun e2 => b1 ⟨e, e2⟩
    rw [q1] at hlk
    clear q1
    have HC : (¬ (a1 = 63 ∧ a2 = 127) ∨ k ≠ 6 ∨ cmd = false ∨ er ≠ 0 ∨ fn ≠ net) := .inl b1
    clear b1
    have HV := Lib.hid (And.intro HC hV)
    clear HC hV
    go_enter Tryz.func26, Tryz.ntmps26
    go_upto_region 1 with fail
    simp only [World.size_alloc] at *
    generalize hg : w.heap.size = gf at *
    generalize (w.alloc _).alloc _ = wb at *
    go_upto_region 2 with (go_at_call 61; refine hg1.mono ?_; rintro e w5 ⟨rfl, h5⟩)
    have lt1 := h5.lt
    have lt2 := h5.drop.lt
    have h6 := h5.alloc (.cells #[.int .i64 ty, .int .i64 ri, .int .i64 ai] TTm)
    have hl5 := hL _ h6.drop.drop.drop
    obtain ⟨l0, l1⟩ := hl5
    generalize w5.alloc _ = w6 at *
    generalize hgc : w5.heap.size = gc at *
    have ne1 : gc ≠ gf + 1 := by omega
    have ne2 : gf + 1 ≠ gc := by omega
    have ne3 : gc ≠ gf := by omega
    have ne4 : gf ≠ gc := by omega
    clear c1 hg1 h1 h2 h5 hL
    have c6 := h6.cell
    have c7 := h6.f2.cell
    have f7 := h6.f2.free
    have c8 := h6.f3.cell
    obtain ⟨HC, hV⟩ := HV.out
    clear HV
    have hV2 := (if_pos HC).symm.trans hV
    have h9 := (((h6.f2.set 0 (.int .i64 0)).set 1 (.int .i64 0)).set 2 (.int .i64 0))
    go_wp2_with (go_at_call 62; refine (hf _).mono ?_; rintro e w8 ⟨rfl, rfl⟩)
    have cr := h9.cell
    refine bodyPost_ret (v := .tuple #[.agg #[.int .i64 0, .int .i64 0, .int .i64 0], .bool false]) (by simp [results, Tryz.results26, go_sem, cr]) rfl ⟨by rw [← hV2], h9.drop.drop.drop⟩
end Go.Proofs.YtnnahljdhdippaaGreatDoor
