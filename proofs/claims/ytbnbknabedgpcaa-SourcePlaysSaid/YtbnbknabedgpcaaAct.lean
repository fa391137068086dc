/- SourcePlays: act: one act of both sides. -/
import Derived.Test.YtbnbknabedgpcaaSame
import Derived.Test.YtbnbknabedgpcaaWSourceNil
import Derived.Test.YtbnbknabedgpcaaGivesD
namespace Go.Proofs.Ytbnbknabedgpcaa
open Go.RowKit

theorem check_nil {x : Sr} {t : Int} (h : (x.check t).2.2 ≠ 0) : (x.check t).2.1 = [] := by
  unfold Sr.check at h ⊢
  by_cases hb : x.pool.has t = false
  · rw [if_pos hb]
  · rw [if_neg hb] at h ⊢
    cases hm : mlook x.checks t with
    | some c => rfl
    | none => rw [hm] at h; exact absurd rfl h
theorem removeP_nil {x : Sr} {t : Int} (h : (x.removeP t).2.2 ≠ 0) : (x.removeP t).2.1 = [] := by
  unfold Sr.removeP at h ⊢
  by_cases hb : kindOf t ≠ 2
  · rw [if_pos hb]
  · rw [if_neg hb] at h; exact absurd rfl h
def Gk (x : Sr) : Prop := ∃ st, Gv x st
theorem Gk.ok {x : Sr} (h : Gk x) : x.Ok := h.elim fun _ h => h.ok
theorem Gk.rs {x : Sr} (h : Gk x) : RSOk x := h.elim fun _ h => ⟨h.ok, h.nd⟩
theorem Gk.check {x : Sr} (h : Gk x) (t : Int) : Gk (x.check t).1 := h.elim fun _ h => (h.check t).elim fun _ h => ⟨_, h.2⟩
theorem Gk.removeP {x : Sr} (h : Gk x) (t : Int) : Gk (x.removeP t).1 := h.elim fun _ h => (h.removeP t).elim fun _ h => ⟨_, h.2⟩
theorem Gk.audit {x : Sr} (h : Gk x) : Gk x.audit.1 := h.elim fun _ h => h.audit.elim fun _ h => ⟨_, h.2⟩
theorem Gk.timeout {x : Sr} (h : Gk x) (t : Int) : Gk (x.timeout t).1 := h.elim fun _ h => (h.timeout t).elim fun _ h => ⟨_, h.2⟩
theorem Gk.message {x : Sr} (h : Gk x) (m : Msg) : Gk (x.message m).1 := h.elim fun _ h => (h.message m).elim fun _ h => ⟨_, h.2⟩




set_option maxRecDepth 100000 in
set_option maxHeartbeats 3200000 in
theorem so_act (s r : Nat) (x : Sr) (l0 : List Ef) (yd yt yr ya yo : Int) (hka : kInt.ok ya) (hyo : (Lit.int .i64 yo).wf = true) (hg : Gk x) (w0 w : World) (R : HP) (h : St w0 w (SAt s x * (SR r x l0 * R))) :
    Calls Try.prog 36 #[ptr s, ptr r, .agg #[.int .i64 yd, .int .i64 yt, .int .i64 yr, .int .i64 ya, .int .i64 yo]] w fun e w' => e = .returned (.bool true) ∧ ∃ x' l', Gk x' ∧ St w0 w' (SAt s x' * (SR r x' l' * R)) := by
  have h5 := h.alloc (.cells #[.int .i64 yd, .int .i64 yt, .int .i64 yr, .int .i64 ya, .int .i64 yo] 80)
  have HG := Lib.hid hg
  clear hg
  go_enter Try.func36, Try.ntmps36
  go_upto_region 1 with fail
  generalize w.alloc _ = wa at *
  generalize w.heap.size = ga at *
  have c0 := h5.cell
  clear h
  go_wp2_with fail
  · refine (so_check s x ya _ _ _ h5.f2 HG.out.ok hka).mono ?_
    rintro e w1 ⟨v, rfl, h6⟩
    have k1 : w1.cell? ⟨ga, 3, none⟩ = some (.int .i64 ya) := h6.f3.cell 3
    go_wp2_with fail
    refine (rs_checkP r x l0 ya HG.out.rs _ _ _ h6.f4).mono ?_
    rintro e w2 ⟨rfl, h7⟩
    have hg2 : Gk (x.check ya).1 := HG.out.check ya
    have hek : EOk (x.check ya).2.1 := EOk.check x ya hka
    have hnil : (x.check ya).2.2 ≠ 0 → (x.check ya).2.1 = [] := check_nil
    generalize (x.check ya) = cl at *
    obtain ⟨x', l', cd⟩ := cl
    simp only [] at h6 h7 hg2 hek hnil
    have HG2 := Lib.hid hg2
    have hl := hek.1
    clear h6 hg2 hek
    have q0 : (cd == cd) = true := by simp
    by_cases hcd : cd = 0
    · subst hcd
      clear hnil
      obtain ⟨p, v2, h8⟩ := h7.sr_open
      have e0 := (h8.cell 257).trans (sc_v _ _ _)
      obtain ⟨a2, c2, rfl, _, _⟩ := h8.f3.l_shape
      have h9 := h8.f3.f4.eq (show _ = EAt v l' * (LAt TE15 5 Ef.cells (.slice a2 l'.length c2) l' * (blk r (.cells (sc p (chkN x'.checks) (.slice a2 l'.length c2)) TS15 (0, 0)) * (PR p x'.pool * (SAt s x' * (blk ga _ * R))))) by ac_rfl)
      clear h7 h8
      go_wp2_with fail
      refine (so_same v _ l' (by omega) w0 _ _ h9).mono ?_
      rintro e w3 ⟨rfl, h10⟩
      go_wp2
      go_ret
      exact ⟨rfl, x', l', HG2.out, ((h10.drop.f2.m2.f3.eq (show _ = blk r (.cells (sc p (chkN x'.checks) (.slice a2 l'.length c2)) TS15 (0, 0)) * (PR p x'.pool * (LAt TE15 5 Ef.cells (.slice a2 l'.length c2) l' * (SAt s x' * (blk ga _ * R)))) by ac_rfl)).sr_shut rfl rfl).f3.drop.eq (by ac_rfl)⟩
    · have hl0 := hnil hcd
      subst hl0
      obtain ⟨a1, c1, rfl, _, _⟩ := h7.f2.l_shape
      have q1 : (cd != 0) = true := by simpa using hcd
      have q2 : (cd == 0) = false := by simpa using hcd
      have H7 := Lib.hid h7
      clear h7 hnil
      go_wp2
      go_ret
      exact ⟨rfl, x', [], HG2.out, H7.out.f2.drop.f3.drop.eq (by ac_rfl)⟩
  · refine (so_check s x ya _ _ _ h5.f2 HG.out.ok hka).mono ?_
    rintro e w1 ⟨v, rfl, h6⟩
    have k1 : w1.cell? ⟨ga, 3, none⟩ = some (.int .i64 ya) := h6.f3.cell 3
    go_wp2_with fail
    refine (rs_checkP r x l0 ya HG.out.rs _ _ _ h6.f4).mono ?_
    rintro e w2 ⟨rfl, h7⟩
    have hg2 : Gk (x.check ya).1 := HG.out.check ya
    have hek : EOk (x.check ya).2.1 := EOk.check x ya hka
    have hnil : (x.check ya).2.2 ≠ 0 → (x.check ya).2.1 = [] := check_nil
    generalize (x.check ya) = cl at *
    obtain ⟨x', l', cd⟩ := cl
    simp only [] at h6 h7 hg2 hek hnil
    have HG2 := Lib.hid hg2
    have hl := hek.1
    clear h6 hg2 hek
    have q0 : (cd == cd) = true := by simp
    by_cases hcd : cd = 0
    · subst hcd
      clear hnil
      obtain ⟨p, v2, h8⟩ := h7.sr_open
      have e0 := (h8.cell 257).trans (sc_v _ _ _)
      obtain ⟨a2, c2, rfl, _, _⟩ := h8.f3.l_shape
      have h9 := h8.f3.f4.eq (show _ = EAt v l' * (LAt TE15 5 Ef.cells (.slice a2 l'.length c2) l' * (blk r (.cells (sc p (chkN x'.checks) (.slice a2 l'.length c2)) TS15 (0, 0)) * (PR p x'.pool * (SAt s x' * (blk ga _ * R))))) by ac_rfl)
      clear h7 h8
      go_wp2_with fail
      refine (so_same v _ l' (by omega) w0 _ _ h9).mono ?_
      rintro e w3 ⟨rfl, h10⟩
      go_wp2
      go_ret
      exact ⟨rfl, x', l', HG2.out, ((h10.drop.f2.m2.f3.eq (show _ = blk r (.cells (sc p (chkN x'.checks) (.slice a2 l'.length c2)) TS15 (0, 0)) * (PR p x'.pool * (LAt TE15 5 Ef.cells (.slice a2 l'.length c2) l' * (SAt s x' * (blk ga _ * R)))) by ac_rfl)).sr_shut rfl rfl).f3.drop.eq (by ac_rfl)⟩
    · have hl0 := hnil hcd
      subst hl0
      obtain ⟨a1, c1, rfl, _, _⟩ := h7.f2.l_shape
      have q1 : (cd != 0) = true := by simpa using hcd
      have q2 : (cd == 0) = false := by simpa using hcd
      have H7 := Lib.hid h7
      clear h7 hnil
      go_wp2
      go_ret
      exact ⟨rfl, x', [], HG2.out, H7.out.f2.drop.f3.drop.eq (by ac_rfl)⟩
  · refine (rs_auditP r x l0 _ _ _ h5.f3).mono ?_
    rintro e w1 ⟨rfl, h6⟩
    have hg2 : Gk x.audit.1 := HG.out.audit
    have hek : EOk x.audit.2 := EOk.audit x
    have hso := so_audit s x w0
    have ok := HG.out.ok.on
    generalize x.audit = cl at *
    obtain ⟨x', l'⟩ := cl
    simp only [] at h6 hg2 hek hso
    have HG2 := Lib.hid hg2
    have hl := hek.1
    have HSO := Lib.hid hso
    clear hg2 hek hso
    obtain ⟨p, v2, h8⟩ := (h6).sr_open
    have e0 := (h8.cell 257).trans (sc_v _ _ _)
    obtain ⟨a2, c2, rfl, _, _⟩ := h8.f3.l_shape
    go_upto_region 10 with fail
    go_region_held3 (fun w' => w'.cell? ⟨r, 257, none⟩ = some (.slice a2 l'.length c2)) (first | exact e0 | exact e1 | exact e2) (first | (go_at_call 33; refine (HSO.out _ _ h8.drew.f5 ok).mono ?_; rintro e w5 ⟨v, rfl, h9⟩; have e1 := (h9.f3.cell 257).trans (sc_v _ _ _)) | (go_at_call 60; refine (so_same v _ l' (by omega) w0 _ _ h9.f5.f2).mono ?_; rintro e w6 ⟨rfl, h10⟩; have e2 := (h10.f4.cell 257).trans (sc_v _ _ _)))
    go_wp2
    go_ret
    exact ⟨rfl, x', l', HG2.out, ((h10.drop.eq (show _ = blk r (.cells (sc p (chkN x'.checks) (.slice a2 l'.length c2)) TS15 (0, 0)) * (PR p x'.pool * (LAt TE15 5 Ef.cells (.slice a2 l'.length c2) l' * (SAt s x' * (blk ga _ * R)))) by ac_rfl)).sr_shut rfl rfl).f3.drop.eq (by ac_rfl)⟩
  · refine (rs_auditP r x l0 _ _ _ h5.f3).mono ?_
    rintro e w1 ⟨rfl, h6⟩
    have hg2 : Gk x.audit.1 := HG.out.audit
    have hek : EOk x.audit.2 := EOk.audit x
    have hso := so_audit s x w0
    have ok := HG.out.ok.on
    generalize x.audit = cl at *
    obtain ⟨x', l'⟩ := cl
    simp only [] at h6 hg2 hek hso
    have HG2 := Lib.hid hg2
    have hl := hek.1
    have HSO := Lib.hid hso
    clear hg2 hek hso
    obtain ⟨p, v2, h8⟩ := (h6).sr_open
    have e0 := (h8.cell 257).trans (sc_v _ _ _)
    obtain ⟨a2, c2, rfl, _, _⟩ := h8.f3.l_shape
    go_upto_region 10 with fail
    go_region_held3 (fun w' => w'.cell? ⟨r, 257, none⟩ = some (.slice a2 l'.length c2)) (first | exact e0 | exact e1 | exact e2) (first | (go_at_call 33; refine (HSO.out _ _ h8.drew.f5 ok).mono ?_; rintro e w5 ⟨v, rfl, h9⟩; have e1 := (h9.f3.cell 257).trans (sc_v _ _ _)) | (go_at_call 60; refine (so_same v _ l' (by omega) w0 _ _ h9.f5.f2).mono ?_; rintro e w6 ⟨rfl, h10⟩; have e2 := (h10.f4.cell 257).trans (sc_v _ _ _)))
    go_wp2
    go_ret
    exact ⟨rfl, x', l', HG2.out, ((h10.drop.eq (show _ = blk r (.cells (sc p (chkN x'.checks) (.slice a2 l'.length c2)) TS15 (0, 0)) * (PR p x'.pool * (LAt TE15 5 Ef.cells (.slice a2 l'.length c2) l' * (SAt s x' * (blk ga _ * R)))) by ac_rfl)).sr_shut rfl rfl).f3.drop.eq (by ac_rfl)⟩
  · refine (so_removeP s x ya _ _ _ h5.f2 HG.out.ok hka).mono ?_
    rintro e w1 ⟨v, rfl, h6⟩
    have k1 : w1.cell? ⟨ga, 3, none⟩ = some (.int .i64 ya) := h6.f3.cell 3
    go_wp2_with fail
    refine (rs_removeP r x l0 ya HG.out.rs _ _ _ h6.f4).mono ?_
    rintro e w2 ⟨rfl, h7⟩
    have hg2 : Gk (x.removeP ya).1 := HG.out.removeP ya
    have hek : EOk (x.removeP ya).2.1 := EOk.removeP x ya hka
    have hnil : (x.removeP ya).2.2 ≠ 0 → (x.removeP ya).2.1 = [] := removeP_nil
    generalize (x.removeP ya) = cl at *
    obtain ⟨x', l', cd⟩ := cl
    simp only [] at h6 h7 hg2 hek hnil
    have HG2 := Lib.hid hg2
    have hl := hek.1
    clear h6 hg2 hek
    have q0 : (cd == cd) = true := by simp
    by_cases hcd : cd = 0
    · subst hcd
      clear hnil
      obtain ⟨p, v2, h8⟩ := h7.sr_open
      have e0 := (h8.cell 257).trans (sc_v _ _ _)
      obtain ⟨a2, c2, rfl, _, _⟩ := h8.f3.l_shape
      have h9 := h8.f3.f4.eq (show _ = EAt v l' * (LAt TE15 5 Ef.cells (.slice a2 l'.length c2) l' * (blk r (.cells (sc p (chkN x'.checks) (.slice a2 l'.length c2)) TS15 (0, 0)) * (PR p x'.pool * (SAt s x' * (blk ga _ * R))))) by ac_rfl)
      clear h7 h8
      go_wp2_with fail
      refine (so_same v _ l' (by omega) w0 _ _ h9).mono ?_
      rintro e w3 ⟨rfl, h10⟩
      go_wp2
      go_ret
      exact ⟨rfl, x', l', HG2.out, ((h10.drop.f2.m2.f3.eq (show _ = blk r (.cells (sc p (chkN x'.checks) (.slice a2 l'.length c2)) TS15 (0, 0)) * (PR p x'.pool * (LAt TE15 5 Ef.cells (.slice a2 l'.length c2) l' * (SAt s x' * (blk ga _ * R)))) by ac_rfl)).sr_shut rfl rfl).f3.drop.eq (by ac_rfl)⟩
    · have hl0 := hnil hcd
      subst hl0
      obtain ⟨a1, c1, rfl, _, _⟩ := h7.f2.l_shape
      have q1 : (cd != 0) = true := by simpa using hcd
      have q2 : (cd == 0) = false := by simpa using hcd
      have H7 := Lib.hid h7
      clear h7 hnil
      go_wp2
      go_ret
      exact ⟨rfl, x', [], HG2.out, H7.out.f2.drop.f3.drop.eq (by ac_rfl)⟩
  · refine (so_removeP s x ya _ _ _ h5.f2 HG.out.ok hka).mono ?_
    rintro e w1 ⟨v, rfl, h6⟩
    have k1 : w1.cell? ⟨ga, 3, none⟩ = some (.int .i64 ya) := h6.f3.cell 3
    go_wp2_with fail
    refine (rs_removeP r x l0 ya HG.out.rs _ _ _ h6.f4).mono ?_
    rintro e w2 ⟨rfl, h7⟩
    have hg2 : Gk (x.removeP ya).1 := HG.out.removeP ya
    have hek : EOk (x.removeP ya).2.1 := EOk.removeP x ya hka
    have hnil : (x.removeP ya).2.2 ≠ 0 → (x.removeP ya).2.1 = [] := removeP_nil
    generalize (x.removeP ya) = cl at *
    obtain ⟨x', l', cd⟩ := cl
    simp only [] at h6 h7 hg2 hek hnil
    have HG2 := Lib.hid hg2
    have hl := hek.1
    clear h6 hg2 hek
    have q0 : (cd == cd) = true := by simp
    by_cases hcd : cd = 0
    · subst hcd
      clear hnil
      obtain ⟨p, v2, h8⟩ := h7.sr_open
      have e0 := (h8.cell 257).trans (sc_v _ _ _)
      obtain ⟨a2, c2, rfl, _, _⟩ := h8.f3.l_shape
      have h9 := h8.f3.f4.eq (show _ = EAt v l' * (LAt TE15 5 Ef.cells (.slice a2 l'.length c2) l' * (blk r (.cells (sc p (chkN x'.checks) (.slice a2 l'.length c2)) TS15 (0, 0)) * (PR p x'.pool * (SAt s x' * (blk ga _ * R))))) by ac_rfl)
      clear h7 h8
      go_wp2_with fail
      refine (so_same v _ l' (by omega) w0 _ _ h9).mono ?_
      rintro e w3 ⟨rfl, h10⟩
      go_wp2
      go_ret
      exact ⟨rfl, x', l', HG2.out, ((h10.drop.f2.m2.f3.eq (show _ = blk r (.cells (sc p (chkN x'.checks) (.slice a2 l'.length c2)) TS15 (0, 0)) * (PR p x'.pool * (LAt TE15 5 Ef.cells (.slice a2 l'.length c2) l' * (SAt s x' * (blk ga _ * R)))) by ac_rfl)).sr_shut rfl rfl).f3.drop.eq (by ac_rfl)⟩
    · have hl0 := hnil hcd
      subst hl0
      obtain ⟨a1, c1, rfl, _, _⟩ := h7.f2.l_shape
      have q1 : (cd != 0) = true := by simpa using hcd
      have q2 : (cd == 0) = false := by simpa using hcd
      have H7 := Lib.hid h7
      clear h7 hnil
      go_wp2
      go_ret
      exact ⟨rfl, x', [], HG2.out, H7.out.f2.drop.f3.drop.eq (by ac_rfl)⟩
  · refine (rs_timeout r x l0 ya HG.out.rs _ _ _ h5.f3).mono ?_
    rintro e w1 ⟨rfl, h6⟩
    have hg2 : Gk (x.timeout ya).1 := HG.out.timeout ya
    have hek : EOk (x.timeout ya).2 := EOk.timeout x ya hka
    have hso := so_timeout s x ya w0
    have ok := HG.out.ok
    generalize x.timeout ya = cl at *
    obtain ⟨x', l'⟩ := cl
    simp only [] at h6 hg2 hek hso
    have HG2 := Lib.hid hg2
    have hl := hek.1
    have HSO := Lib.hid hso
    clear hg2 hek hso
    obtain ⟨p, v2, h8⟩ := (h6).sr_open
    have e0 := (h8.cell 257).trans (sc_v _ _ _)
    obtain ⟨a2, c2, rfl, _, _⟩ := h8.f3.l_shape
    have g0 := h8.f4.cell 3
    go_upto_region 19 with fail
    go_region_held3 (fun w' => w'.cell? ⟨r, 257, none⟩ = some (.slice a2 l'.length c2) ∧ w'.cell? ⟨ga, 3, none⟩ = some (.int .i64 ya)) (first | exact ⟨e0, g0⟩ | exact ⟨e1, g1⟩ | exact ⟨e2, g2⟩) (first | (go_at_call 34; refine (HSO.out _ _ h8.drew.f5 ok hka).mono ?_; rintro e w5 ⟨v, rfl, h9⟩; have e1 := (h9.f3.cell 257).trans (sc_v _ _ _); have g1 := h9.drop.f5.cell 3) | (go_at_call 60; refine (so_same v _ l' (by omega) w0 _ _ h9.f5.f2).mono ?_; rintro e w6 ⟨rfl, h10⟩; have e2 := (h10.f4.cell 257).trans (sc_v _ _ _); have g2 := h10.drop.f5.cell 3))
    go_wp2
    go_ret
    exact ⟨rfl, x', l', HG2.out, ((h10.drop.eq (show _ = blk r (.cells (sc p (chkN x'.checks) (.slice a2 l'.length c2)) TS15 (0, 0)) * (PR p x'.pool * (LAt TE15 5 Ef.cells (.slice a2 l'.length c2) l' * (SAt s x' * (blk ga _ * R)))) by ac_rfl)).sr_shut rfl rfl).f3.drop.eq (by ac_rfl)⟩
  · refine (rs_timeout r x l0 ya HG.out.rs _ _ _ h5.f3).mono ?_
    rintro e w1 ⟨rfl, h6⟩
    have hg2 : Gk (x.timeout ya).1 := HG.out.timeout ya
    have hek : EOk (x.timeout ya).2 := EOk.timeout x ya hka
    have hso := so_timeout s x ya w0
    have ok := HG.out.ok
    generalize x.timeout ya = cl at *
    obtain ⟨x', l'⟩ := cl
    simp only [] at h6 hg2 hek hso
    have HG2 := Lib.hid hg2
    have hl := hek.1
    have HSO := Lib.hid hso
    clear hg2 hek hso
    obtain ⟨p, v2, h8⟩ := (h6).sr_open
    have e0 := (h8.cell 257).trans (sc_v _ _ _)
    obtain ⟨a2, c2, rfl, _, _⟩ := h8.f3.l_shape
    have g0 := h8.f4.cell 3
    go_upto_region 19 with fail
    go_region_held3 (fun w' => w'.cell? ⟨r, 257, none⟩ = some (.slice a2 l'.length c2) ∧ w'.cell? ⟨ga, 3, none⟩ = some (.int .i64 ya)) (first | exact ⟨e0, g0⟩ | exact ⟨e1, g1⟩ | exact ⟨e2, g2⟩) (first | (go_at_call 34; refine (HSO.out _ _ h8.drew.f5 ok hka).mono ?_; rintro e w5 ⟨v, rfl, h9⟩; have e1 := (h9.f3.cell 257).trans (sc_v _ _ _); have g1 := h9.drop.f5.cell 3) | (go_at_call 60; refine (so_same v _ l' (by omega) w0 _ _ h9.f5.f2).mono ?_; rintro e w6 ⟨rfl, h10⟩; have e2 := (h10.f4.cell 257).trans (sc_v _ _ _); have g2 := h10.drop.f5.cell 3))
    go_wp2
    go_ret
    exact ⟨rfl, x', l', HG2.out, ((h10.drop.eq (show _ = blk r (.cells (sc p (chkN x'.checks) (.slice a2 l'.length c2)) TS15 (0, 0)) * (PR p x'.pool * (LAt TE15 5 Ef.cells (.slice a2 l'.length c2) l' * (SAt s x' * (blk ga _ * R)))) by ac_rfl)).sr_shut rfl rfl).f3.drop.eq (by ac_rfl)⟩
  · rename_i b1 b2 b3 b4 b5 b6 b7 b8 K a
    clear b1 b2 b3 b4 b5 b6 b7 b8
    obtain ⟨m, hm, hM⟩ : ∃ m : Nat, m < 70 ∧ max 0 yo % 70 = (m : Int) := ⟨(max 0 yo % 70).toNat, by omega, by omega⟩
    rw [hM]
    clear hM
    go_loopw [125] (fun i wr => ∃ (j : Nat) (x1 : Sr) (l1 : List Ef), j ≤ 1 + m ∧ i = .int .i64 j ∧ Hid (Gk x1) ∧ St w0 wr (blk ga (.cells #[.int .i64 yd, .int .i64 yt, .int .i64 yr, .int .i64 ya, .int .i64 yo] 80 (0, 0)) * (SAt s x1 * (SR r x1 l1 * R)))) (fun i _ => 1 + m - (intOf i).toNat)
    case atStart => exact ⟨0, x, l0, by omega, rfl, HG, h5⟩
    case round =>
      clear h5 c0 HG
      obtain ⟨j, x1, l1, hj, rfl, HG, h6⟩ := hrel
      by_cases hlt : j < 1 + m
      · have c1 := h6.cell
        have hji : (j : Int) < 1 + (m : Int) := by omega
        go_wp2_with fail
        refine (rs_message r x1 l1 ⟨yt, yr, ya⟩ HG.out.rs _ _ _ h6.f3).mono ?_
        rintro e w1 ⟨rfl, h7⟩
        have hg2 : Gk (x1.message ⟨yt, yr, ya⟩).1 := HG.out.message ⟨yt, yr, ya⟩
        have hek : EOk (x1.message ⟨yt, yr, ya⟩).2 := EOk.message x1 ⟨yt, yr, ya⟩ hka
        have hso := so_message s x1 ⟨yt, yr, ya⟩ w0
        have ok := HG.out.ok
        generalize x1.message ⟨yt, yr, ya⟩ = cl at *
        obtain ⟨x', l'⟩ := cl
        simp only [] at h7 hg2 hek hso
        have HG2 := Lib.hid hg2
        have hl := hek.1
        have HSO := Lib.hid hso
        clear hg2 hek hso h6 c1
        obtain ⟨p, v2, h8⟩ := (h7).sr_open
        have e0 := (h8.cell 257).trans (sc_v _ _ _)
        obtain ⟨a2, c2, rfl, _, _⟩ := h8.f3.l_shape
        have g0 := h8.f4.cell
        go_upto_region 23 with fail
        go_region_held3 (fun w' => w'.cell? ⟨r, 257, none⟩ = some (.slice a2 l'.length c2) ∧ w'.cell? ⟨ga, 0, none⟩ = some (.int .i64 yd) ∧ w'.cell? ⟨ga, 1, none⟩ = some (.int .i64 yt) ∧ w'.cell? ⟨ga, 2, none⟩ = some (.int .i64 yr) ∧ w'.cell? ⟨ga, 3, none⟩ = some (.int .i64 ya) ∧ w'.cell? ⟨ga, 4, none⟩ = some (.int .i64 yo)) (first | exact ⟨e0, g0 0, g0 1, g0 2, g0 3, g0 4⟩ | exact ⟨e3, g3 0, g3 1, g3 2, g3 3, g3 4⟩ | exact ⟨e1, g1 0, g1 1, g1 2, g1 3, g1 4⟩ | exact ⟨e2, g2 0, g2 1, g2 2, g2 3, g2 4⟩) (first | (go_at_call 41; refine (sn_made yd yt yr ya yo h8.drew).mono ?_; rintro e w4 ⟨rfl, h8x⟩; have e3 := (h8x.cell 257).trans (sc_v _ _ _); have g3 := h8x.f4.cell) | (go_at_call 15; refine (HSO.out _ _ h8x.f5 ok).mono ?_; rintro e w5 ⟨v, rfl, h9⟩; have e1 := (h9.f3.cell 257).trans (sc_v _ _ _); have g1 := h9.drop.f5.cell) | (go_at_call 60; refine (so_same v _ l' (by omega) w0 _ _ h9.f5.f2).mono ?_; rintro e w6 ⟨rfl, h10⟩; have e2 := (h10.f4.cell 257).trans (sc_v _ _ _); have g2 := h10.drop.f5.cell))
        go_wp2
        have h11 := ((h10.drop.eq (show _ = blk r (.cells (sc p (chkN x'.checks) (.slice a2 l'.length c2)) TS15 (0, 0)) * (PR p x'.pool * (LAt TE15 5 Ef.cells (.slice a2 l'.length c2) l' * (SAt s x' * (blk ga _ * R)))) by ac_rfl)).sr_shut rfl rfl).eq (show _ = blk ga _ * (SAt s x' * (SR r x' l' * R)) by ac_rfl)
        clear h8 h8x h9 h10 e0 e1 e2 e3 g0 g1 g2 g3
        go_roundw
        case rel => exact ⟨j + 1, x', l', by omega, by go_num, HG2, h11⟩
        case measure => simp [intOf]; omega
      · have hji : ¬ (j : Int) < 1 + (m : Int) := by omega
        go_wp2
        go_ret
        exact ⟨rfl, x1, HG.out, l1, h6.drop⟩
end Go.Proofs.Ytbnbknabedgpcaa
