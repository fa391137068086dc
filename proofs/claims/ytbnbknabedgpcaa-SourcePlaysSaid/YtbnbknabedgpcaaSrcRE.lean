/- The reference's source: Message. -/
import Derived.Test.YtbnbknabedgpcaaSrcRD
import Derived.BigQuiet
namespace Go.Proofs.Ytbnbknabedgpcaa
open Go.RowKit

theorem bad_none {m : Msg} (h : m.bad = 0) : 1 ≤ m.ty ∧ m.ty ≤ 7 ∧ 0 ≤ m.ri ∧ m.ri < 65536 ∧ 0 ≤ m.ai ∧ m.ai ≤ 127 := by
  unfold Msg.bad at h
  split at h
  · omega
  · split at h
    · omega
    · split at h
      · omega
      · omega
set_option maxRecDepth 100000 in
set_option maxHeartbeats 1600000 in
theorem rs_message (r : Nat) (x : Sr) (l : List Ef) (m : Msg) (ok : RSOk x) (w0 w : World) (R : HP) (h : St w0 w (SR r x l * R)) :
    Calls Try.prog 64 #[ptr r, .agg m.cells.toArray] w fun e w' => e = .returned (.tuple #[]) ∧ St w0 w' (SR r (x.message m).1 (x.message m).2 * R) := by
  obtain ⟨ty, ri, ai⟩ := m
  have hM : Sr.message x ⟨ty, ri, ai⟩ = (if Msg.bad ⟨ty, ri, ai⟩ ≠ 0 then (x, []) else if ty = 1 then x.request ⟨ty, ri, ai⟩ else if ty = 5 then x.response ai else if ty = 7 then if (x.check ai).2.2 = 0 then ((x.check ai).1, (x.check ai).2.1) else ((x.check ai).1, (x.check ai).1.stray ai) else (x, [])) := rfl
  obtain ⟨res, hres⟩ : ∃ res, Sr.message x ⟨ty, ri, ai⟩ = res := ⟨_, rfl⟩
  rw [hres] at hM
  rw [hres]
  simp only [Msg.cells]
  have h0 := (h.alloc (.cells #[.int .i64 ty, .int .i64 ri, .int .i64 ai] 130)).f2
  obtain ⟨p, v, h1⟩ := h0.sr_open
  have c257 := (h1.cell 257).trans (sc_v _ _ _)
  have f257 := h1.free
  have hlt := h1.lt
  have h2 := (h1.set 257 (.slice none 0 0)).f3.drop
  rw [sc_set_v] at h2
  have h3 := ((h2.l_nil TE15 5 Ef.cells).b3).sr_shut (x := x) rfl rfl
  have hbd : Msg.bad ⟨ty, ri, ai⟩ = 0 → 1 ≤ ty ∧ ty ≤ 7 ∧ 0 ≤ ri ∧ ri < 65536 ∧ 0 ≤ ai ∧ ai ≤ 127 := fun h => bad_none h
  have hput := fun (w : World) (R : HP) (h : St w0 w R) => rp_put ⟨ty, ri, ai⟩ w0 w R h
  obtain ⟨bd, hbdv⟩ : ∃ bd, Msg.bad ⟨ty, ri, ai⟩ = bd := ⟨_, rfl⟩
  rw [hbdv] at hM hbd hput
  simp only [Msg.cells] at hput
  have HPUT := Lib.hid hput
  have HM := Lib.hid hM
  have HBD := Lib.hid hbd
  clear h2 hput hM hres hbd hbdv h h0
  go_enter Try.func64, Try.ntmps64
  go_upto_region 2 with fail
  generalize (w.alloc _).setCell _ _ = w3 at *
  generalize w.heap.size = gm at *
  clear h1 c257 f257 hlt
  have cm := h3.f2.cell
  go_wp2_with fail
  refine (HPUT.out _ _ h3).mono ?_
  rintro e w4 ⟨⟨s, rfl⟩, h4⟩
  clear h3 cm
  have cm := h4.f2.cell
  have hM := HM.out
  by_cases hb : bd = 0
  · subst hb
    rw [if_neg (by simp)] at hM
    obtain ⟨y1, y2, y3, y4, y5, y6⟩ := HBD.out rfl
    by_cases t1 : ty = 1
    · subst t1
      rw [if_pos rfl] at hM
      unfold Sr.request at hM
      simp only [] at hM
      by_cases a127 : ai = 127
      · subst a127
        rw [if_neg (by simp)] at hM
        obtain ⟨p5, v5, h5⟩ := h4.sr_open
        have c0 := (h5.cell 0).trans (sc_p _ _ _)
        obtain ⟨sk, hsk⟩ : ∃ sk, Pl.seek 63 x.pool = sk := ⟨_, rfl⟩
        rw [hsk] at hM
        have has := ph_assign p5 x.pool w0 _ _ h5.f2 ok.ok.last
        rw [hsk] at has
        obtain ⟨sp, st, se⟩ := sk
        simp only [] at hM has
        have HM2 := Lib.hid hM
        clear hM y1 y2 hsk
        go_wp2_with fail
        refine has.mono ?_
        rintro e w6 ⟨rfl, h6⟩
        have h7 := h6.f2.sr_shut (x := ⟨sp, x.checks⟩) rfl rfl
        clear h5 h6 c0 has cm
        have cm := h7.f2.cell
        by_cases e0 : se = 0
        · subst e0
          have hM := HM2.out
          rw [if_pos rfl] at hM
          have HM3 := Lib.hid hM
          clear hM
          go_wp2_with fail
          refine (rs_say r _ [] 2 ri st (by simp) _ _ _ h7).mono ?_
          rintro e w8 ⟨rfl, h8⟩
          go_wp2_with fail
          refine (rs_tell r _ _ 1 st (by simp) _ _ _ h8).mono ?_
          rintro e w9 ⟨rfl, h9⟩
          go_wp2
          refine bodyPost_ret (v := .tuple #[]) (by simp [results, Try.results64, go_sem]) rfl ?_
          rw [HM3.out]
          exact ⟨rfl, h9.f2.drop⟩
        · have hM := HM2.out
          rw [if_neg e0] at hM
          have HM3 := Lib.hid hM
          have q0 : (se == 0) = false := by simpa using e0
          clear hM e0
          go_wp2_with fail
          refine (rs_say r _ [] 3 ri 127 (by simp) _ _ _ h7).mono ?_
          rintro e w8 ⟨rfl, h8⟩
          go_wp2_with fail
          refine (rs_audit r _ _ (by simp) _ _ _ h8).mono ?_
          rintro e w9 ⟨rfl, h9⟩
          go_wp2
          go_end0
          rw [HM3.out]
          exact ⟨rfl, h9.f2.drop⟩
      · rw [if_pos a127] at hM
        have q0 : (ai != 127) = true := by simpa using a127
        have q1 : (ai == 127) = false := by simpa using a127
        have HM3 := Lib.hid hM
        clear hM a127
        go_wp2_with fail
        refine (rs_say r _ [] 3 ri ai (by simp) _ _ _ h4).mono ?_
        rintro e w8 ⟨rfl, h8⟩
        go_wp2
        refine bodyPost_ret (v := .tuple #[]) (by simp [results, Try.results64, go_sem]) rfl ?_
        rw [HM3.out]
        exact ⟨rfl, h8.f2.drop⟩
    rw [if_neg t1] at hM
    have t1' : (ty == 1) = false := by simpa using t1
    obtain ⟨i, rfl⟩ : ∃ i : Nat, ai = (i : Int) := ⟨ai.toNat, by omega⟩
    have hi : i < 128 := by omega
    by_cases t5 : ty = 5
    · subst t5
      rw [if_pos rfl] at hM
      unfold Sr.response at hM
      obtain ⟨p2, v2, h6⟩ := (h4).sr_open
      have ca := (h6.cell (1 + i * 2)).trans (sc_a _ _ _ hi)
      have cn := (h6.cell (1 + i * 2 + 1)).trans (sc_n _ _ _ hi)
      have f2 := h6.free
      have hq1 : (0 : Int) ≤ (i : Int) := by omega
      have hq2 : (i : Int) < 128 := by omega
      cases hm : mlook x.checks (i : Int) with
      | none =>
        have e1 : chkN x.checks i = (0, 0) := by unfold chkN; rw [hm]
        rw [e1] at ca cn
        rw [hm] at hM
        simp only [] at hM
        have HM3 := Lib.hid hM
        clear hM e1 hm h6 f2
        go_upto_region 15 with fail
        go_quiet (fail)
        have h7 := h4.drewN nq
        clear ca cn cm h4
        generalize w4.drewN nq = w5 at *
        have cm := h7.f2.cell
        go_wp2_with fail
        refine (rs_stray r x [] (i : Int) (by simp) _ _ _ h7).mono ?_
        rintro e w8 ⟨rfl, h8⟩
        rw [List.nil_append] at h8
        go_wp2
        refine bodyPost_ret (v := .tuple #[]) (by simp [results, Try.results64, go_sem]) rfl ?_
        rw [HM3.out]
        exact ⟨rfl, h8.f2.drop⟩
      | some c =>
        have hsame := ok.same hm
        obtain ⟨ct, cka, ckn⟩ := c
        simp only [] at hsame
        subst hsame
        have hbd := ok.ok.all _ (mlook_mem hm)
        simp only [] at hbd
        have e1 : chkN x.checks i = (cka, ckn) := by unfold chkN; rw [hm]
        have hcp := chkN_put x.checks i cka (ckn + 1) (i : Int)
        have hE1 := Lib.hid e1
        rw [e1] at ca cn
        rw [hm] at hM
        simp only [] at hM
        have q1 : (cka == 0) = false := by simp; omega
        have hw : IntKind.i64.wrap (ckn + 1) = ckn + 1 := by rw [IntKind.wrap_i64]; omega
        have HM3 := Lib.hid hM
        have HCP := Lib.hid hcp
        have HBD2 := Lib.hid hbd
        clear hM e1 hm hcp hbd
        go_upto_region 15 with fail
        go_quiet (fail)
        have h7 := h4.drewN nq
        clear ca cn cm f2 h4 h6
        generalize w4.drewN nq = w5 at *
        clear nq
        have cm := h7.f2.cell
        obtain ⟨p3, v3, h8⟩ := h7.sr_open
        have ca := (h8.cell (1 + i * 2)).trans (sc_a _ _ _ hi)
        have cn := (h8.cell (1 + i * 2 + 1)).trans (sc_n _ _ _ hi)
        rw [hE1.out] at ca cn
        go_upto_region 17 with fail
        go_still_tail 16, (by kernel_rfl)
        change wpList _ _ _ _ _ w5.drew
        have h9 := h8.drew
        clear ca cn cm h7 h8
        generalize w5.drew = w6 at *
        have cm := h9.f4.cell
        have ca := (h9.cell (1 + i * 2)).trans (sc_a _ _ _ hi)
        have cn := (h9.cell (1 + i * 2 + 1)).trans (sc_n _ _ _ hi)
        have f3 := h9.free
        rw [hE1.out] at ca cn
        have h10 := h9.set (1 + i * 2 + 1) (.int .i64 (ckn + 1))
        rw [sc_set_n _ _ _ hi, hE1.out] at h10
        have h11 := h10.sr_shut (x := ⟨x.pool, mput x.checks (i : Int) ⟨(i : Int), cka, ckn + 1⟩⟩) HCP.out.symm rfl
        go_upto_region 18 with fail
        clear ca cn cm f3 h9 h10
        generalize w6.setCell _ _ = w7 at *
        have cm := h11.f2.cell
        obtain ⟨p4, v4, h12⟩ := h11.sr_open
        have ca := (h12.cell (1 + i * 2)).trans (sc_a _ _ _ hi)
        have cn := (h12.cell (1 + i * 2 + 1)).trans (sc_n _ _ _ hi)
        simp only [HCP.out, updN_at] at ca cn
        have h13 := fun n => h11.drewN n
        clear h12
        by_cases hc : ckn = 1
        · subst hc
          have q2 : ((1 : Int) + 1 == 2) = true := by decide
          have hM := HM3.out
          rw [if_pos (by decide)] at hM
          have HM4 := Lib.hid hM
          clear hM
          go_quiet (fail)
          have h14 := h13 nq
          clear ca cn cm h13 h11
          generalize w7.drewN nq = w8 at *
          have cm := h14.f2.cell
          go_wp2_with fail
          refine (rs_remove r _ [] i hi (by simp) (mput_nodup ok.nd) (fun c hc => ?_) _ _ _ h14).mono ?_
          · rw [mlook_mput_same] at hc
            have := Option.some.inj hc
            subst this
            have := HBD2.out
            simp only []
            omega
          rintro e w15 ⟨rfl, h15⟩
          rw [List.nil_append] at h15
          go_wp2
          go_end0
          rw [HM4.out]
          exact ⟨rfl, h15.f2.drop⟩
        · have hc0 : ckn = 0 := by have := HBD2.out; omega
          subst hc0
          have q2 : ((0 : Int) + 1 == 2) = false := by decide
          have hM := HM3.out
          rw [if_neg (by decide)] at hM
          have HM4 := Lib.hid hM
          clear hM
          go_quiet (fail)
          have h14 := h13 nq
          clear ca cn cm h13 h11
          generalize w7.drewN nq = w8 at *
          go_wp2
          go_end0
          rw [HM4.out]
          exact ⟨rfl, h14.f2.drop⟩
    rw [if_neg t5] at hM
    have t5' : (ty == 5) = false := by simpa using t5
    by_cases t7 : ty = 7
    · subst t7
      rw [if_pos rfl] at hM
      obtain ⟨p2, v2, h6⟩ := h4.sr_open
      have c0 := (h6.cell 0).trans (sc_p _ _ _)
      have HM3 := Lib.hid hM
      have cm2 : w4.cell? ⟨gm, 2, none⟩ = some (.int .i64 (i : Int)) := cm 2
      have hq1 : (0 : Int) ≤ (i : Int) := by omega
      have hq2 : (i : Int) < 128 := by omega
      have hh := fun (w : World) (R : HP) (h : St w0 w (PR p2 x.pool * R)) => ph_has p2 x.pool (i : Int) w0 w R h
      obtain ⟨hb, hbv⟩ : ∃ hb, x.pool.has (i : Int) = hb := ⟨_, rfl⟩
      rw [hbv] at hh
      have HH := Lib.hid hh
      have HB := Lib.hid hbv
      clear hM hh hbv
      go_upto_region 21 with fail
      go_region_held3 (fun w' => w'.cell? ⟨gm, 2, none⟩ = some (.int .i64 (i : Int)) ∧ w'.cell? ⟨r, 0, none⟩ = some (ptr p2)) (first | exact ⟨cm2, c0⟩ | exact ⟨cm3, c3⟩) (first | (go_at_call 78; refine (HH.out _ _ h6.drew.f2).mono ?_; rintro e w5 ⟨rfl, h7⟩; have c3 := (h7.f2.cell 0).trans (sc_p _ _ _); have cm3 := h7.f4.cell 2))
      have h8 := h7.f2.sr_shut (x := x) rfl rfl
      clear cm cm2 cm3 c0 c3 h4 h6 h7
      have cm := h8.f2.cell
      have hM := HM3.out
      cases hb with
      | false =>
        have hck : x.check (i : Int) = (x, [], 11) := by unfold Sr.check; rw [if_pos HB.out]
        rw [hck] at hM
        simp only [] at hM
        have hM2 : res = (x, x.stray (i : Int)) := hM.trans (if_neg (show ¬ ((11 : Int) = 0) by decide))
        have HM4 := Lib.hid hM2
        clear hM hM2 hck
        go_wp2_with fail
        refine (rs_stray r x [] (i : Int) (by simp) _ _ _ h8).mono ?_
        rintro e w9 ⟨rfl, h9⟩
        rw [List.nil_append] at h9
        go_wp2
        refine bodyPost_ret (v := .tuple #[]) (by simp [results, Try.results64, go_sem]) rfl ?_
        rw [HM4.out]
        exact ⟨rfl, h9.f2.drop⟩
      | true =>
        obtain ⟨p2, v2, h6⟩ := (h8).sr_open
        have ca := (h6.cell (1 + i * 2)).trans (sc_a _ _ _ hi)
        have cn := (h6.cell (1 + i * 2 + 1)).trans (sc_n _ _ _ hi)
        have f2 := h6.free
        cases hm : mlook x.checks (i : Int) with
        | none =>
          have e1 : chkN x.checks i = (0, 0) := by unfold chkN; rw [hm]
          rw [e1] at ca cn
          have hask : x.ask (i : Int) = (⟨x.pool, mput x.checks (i : Int) ⟨(i : Int), 1, 0⟩⟩, [.said 4 0 (i : Int), .of 3 (i : Int)]) := by unfold Sr.ask; rw [hm]; rfl
          have hck : x.check (i : Int) = ((x.ask (i : Int)).1, (x.ask (i : Int)).2, 0) := by unfold Sr.check; rw [if_neg (by simp [HB.out]), hm]
          rw [hck] at hM
          simp only [] at hM
          have hM2 : res = ((x.ask (i : Int)).1, (x.ask (i : Int)).2) := hM.trans (by first | exact if_pos trivial | simp)
          clear hck
          rw [hask] at hM2
          have HM4 := Lib.hid hM2
          clear hM hM2 e1 hm hask h6 f2
          go_upto_region 24 with fail
          go_quiet (fail)
          have h9 := h8.drewN nq
          clear ca cn cm h8
          generalize w5.drewN nq = w6 at *
          have cm := h9.f2.cell
          go_wp2_with fail
          refine (rs_check r x [] i hi (by simp) _ _ _ h9).mono ?_
          rintro e w10 ⟨rfl, h10⟩
          go_wp2
          go_end0
          rw [HM4.out]
          exact ⟨rfl, h10.f2.drop⟩
        | some c =>
          have hbd := ok.ok.all _ (mlook_mem hm)
          obtain ⟨ct, cka, ckn⟩ := c
          simp only [] at hbd
          have e1 : chkN x.checks i = (cka, ckn) := by unfold chkN; rw [hm]
          rw [e1] at ca cn
          have hck : x.check (i : Int) = (x, [], 13) := by unfold Sr.check; rw [if_neg (by simp [HB.out]), hm]
          rw [hck] at hM
          simp only [] at hM
          have hM2 : res = (x, x.stray (i : Int)) := hM.trans (if_neg (show ¬ ((13 : Int) = 0) by decide))
          clear hck
          have hst : x.stray (i : Int) = [] := by unfold Sr.stray; rw [if_pos (.inr HB.out)]
          rw [hst] at hM2
          have q1 : (cka == 0) = false := by simp; omega
          have HM4 := Lib.hid hM2
          clear hM hM2 e1 hm hst h6 f2 hbd
          go_upto_region 24 with fail
          go_quiet (fail)
          have h9 := h8.drewN nq
          clear ca cn cm h8
          generalize w5.drewN nq = w6 at *
          go_wp2
          go_end0
          rw [HM4.out]
          exact ⟨rfl, h9.f2.drop⟩
    · rw [if_neg t7] at hM
      have t7' : (ty == 7) = false := by simpa using t7
      have HM3 := Lib.hid hM
      clear hM t1 t5 t7
      go_wp2
      go_end0
      rw [HM3.out]
      exact ⟨rfl, h4.f2.drop⟩
  · rw [if_pos hb] at hM
    have q0 : (bd != 0) = true := by simpa using hb
    have HM3 := Lib.hid hM
    clear hM hb
    go_wp2
    refine bodyPost_ret (v := .tuple #[]) (by simp [results, Try.results64, go_sem]) rfl ?_
    rw [HM3.out]
    exact ⟨rfl, h4.f2.drop⟩
end Go.Proofs.Ytbnbknabedgpcaa
