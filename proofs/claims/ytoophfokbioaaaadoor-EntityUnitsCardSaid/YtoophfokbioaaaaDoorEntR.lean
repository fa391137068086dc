/- The entity: RR, RNR or REJ comes. -/
import Derived.Test.YtoophfokbioaaaaDoorEntO
namespace Go.Proofs.YtoophfokbioaaaaDoor
open Go.RowKit

def En.sup1 (x : En) (c p : Bool) : En := if c = true ∧ p = true then x.superv false true else if p = true ∧ x.state = 7 then x.told 7 ⟨#[65]⟩ else x
def En.sup3 (x3 : En) (f : Fr) (n b : Int) : En :=
  if b ≠ 0 then x3.anew ⟨#[74]⟩
  else if x3.state = 8 ∧ (f.cmd = true ∨ f.pf = false) then x3
  else if x3.state = 7 ∧ f.kind = 1 then (x3.count n).goOn
  else
    let x4 := if f.kind ≠ 2 then (x3.stop 200).start 203 else (if x3.state = 7 then x3.stop 203 else x3).start 200
    let x5 := if x3.state = 8 ∨ f.kind = 3 then x4.setFl x4.fl.back else x4
    (x5.setState 7).goOn
def En.sup2 (x : En) (f : Fr) : En :=
  ((x.setFl (Fl.withPeer x.fl (f.kind == 2))).setFl ((Fl.withPeer x.fl (f.kind == 2)).ack f.nr).1).sup3 f ((Fl.withPeer x.fl (f.kind == 2)).ack f.nr).2.1 ((Fl.withPeer x.fl (f.kind == 2)).ack f.nr).2.2
theorem sup_eq (x : En) (f : Fr) : x.supervised f = (x.sup1 f.cmd f.pf).sup2 f := by
  unfold En.sup1
  split
  · rename_i h
    unfold En.supervised
    simp only []
    rw [if_pos h]
    rfl
  · rename_i h
    split
    · rename_i h2
      unfold En.supervised
      simp only []
      rw [if_neg h, if_pos h2]
      rfl
    · rename_i h2
      unfold En.supervised
      simp only []
      rw [if_neg h, if_neg h2]
      rfl
theorem sup1_state (x : En) (c p : Bool) : (x.sup1 c p).state = x.state := by
  unfold En.sup1
  split
  · rfl
  · split <;> rfl
theorem sup1_fl (x : En) (c p : Bool) : (x.sup1 c p).fl = x.fl := by
  unfold En.sup1
  split
  · rfl
  · split <;> rfl
theorem sup1_len (x : En) (c p : Bool) : (x.sup1 c p).out.length ≤ x.out.length + 1 := by
  unfold En.sup1
  split
  · rw [En.superv_len]; omega
  · split
    · rw [En.told_len]; omega
    · omega
theorem count_len (x : En) (n : Int) : (x.count n).out.length ≤ x.out.length + 2 := by
  unfold En.count
  split
  · have := x.stop_len 200; rw [En.start_len]; omega
  · split
    · rw [En.start_len]; omega
    · omega
theorem count_fl (x : En) (n : Int) : (x.count n).fl = x.fl := by
  unfold En.count
  split
  · exact (En.start_fl _ _).trans (En.stop_fl _ _)
  · split
    · exact En.start_fl _ _
    · rfl

theorem St.e_fl2 {w0 w : World} {R : HP} {e : Nat} {x : En} (h : St w0 w (EnAt e x * R)) : ∃ fp R', w.cell? ⟨e, 7, none⟩ = some (ptr fp) ∧ St w0 w (FAt TF TQ fp x.fl * R') ∧ (∀ w' fl, St w0 w' (FAt TF TQ fp fl * R') → St w0 w' (EnAt e (x.setFl fl) * R)) ∧ ∀ w' fl, St w0 w' (FAt TF TQ fp fl * R') → w'.cell? ⟨e, 7, none⟩ = some (ptr fp) := by
  obtain ⟨rm, fp, uv, ov, rl, hr, h1⟩ := h.e_open
  exact ⟨fp, _, h1.cell 7, h1.f4, fun w' fl h2 => h2.b4.e_shut (x := x.setFl fl) rfl rfl hr rfl rfl rfl, fun w' fl h2 => h2.b4.cell 7⟩

set_option maxRecDepth 100000 in
set_option maxHeartbeats 1600000 in
theorem e_supervised (e : Nat) (x : En) (y : Fr) (ok : x.fl.Ok) (hs : x.state = 7 ∨ x.state = 8) (hl : x.out.length ≤ 97000) (w0 w : World) (R : HP) (h : St w0 w (EnAt e x * R)) :
    Calls Tryd.prog 55 #[ptr e, .agg y.cells.toArray] w fun r w' => r = .returned (.tuple #[]) ∧ St w0 w' (EnAt e (x.supervised y) * R) := by
  rw [sup_eq]
  obtain ⟨a1, a2, cmd, k, pf, a6, nr, a8⟩ := y
  have h2 := h.alloc (.cells (Fr.cells ⟨a1, a2, cmd, k, pf, a6, nr, a8⟩).toArray TFr)
  clear h
  simp only []
  have s1 := sup1_state x cmd pf
  have s2 := sup1_fl x cmd pf
  have s3 := sup1_len x cmd pf
  obtain ⟨x1, hx1⟩ : ∃ x1, x.sup1 cmd pf = x1 := ⟨_, rfl⟩
  rw [hx1] at s1 s2 s3 ⊢
  have HX := Lib.hid hx1
  clear hx1
  obtain ⟨z, hz⟩ : ∃ z, x1.sup2 ⟨a1, a2, cmd, k, pf, a6, nr, a8⟩ = z := ⟨_, rfl⟩
  rw [hz]
  have HZ := Lib.hid hz
  clear hz
  go_enter Tryd.func55, Tryd.ntmps55
  go_upto_region 1 with fail
  generalize w.alloc _ = wa at *
  generalize w.heap.size = ga at *
  have d := h2.cell
  go_upto_region 1 with fail
  go_cut [4] (fun s4 wx => s4 = .bool (!cmd && pf) ∧ wx = wa)
  case first =>
    cases cmd <;> cases pf
    all_goals (
      go_wp2
      go_meet
      exact ⟨rfl, rfl⟩)
  case rest =>
    obtain ⟨rfl, rfl⟩ := hcut
    go_upto_block 0 with fail
    go_cut [] (fun wx => St w0 wx (EnAt e x1 * (blk ga (.cells #[.int .i64 a1, .int .i64 a2, .bool cmd, .int .i64 k, .bool pf, .int .i64 a6, .int .i64 nr, .string a8] TFr (0, 0)) * R)))
    case first =>
      have hx1 := HX.out
      clear HX
      unfold En.sup1 at hx1
      have c1 := h2.f2.e_c1
      cases cmd with
      | true =>
        cases pf with
        | true =>
          rw [if_pos ⟨rfl, rfl⟩] at hx1
          subst hx1
          go_wp2_with fail
          refine (e_superv e x false true ok (by omega) w0 _ _ h2.f2).mono ?_
          rintro r w1 ⟨rfl, h3⟩
          clear d c1 h2
          go_wp2
          go_meet
          exact h3
        | false =>
          rw [if_neg (by simp), if_neg (by simp)] at hx1
          subst hx1
          go_wp2
          go_meet
          exact h2.f2
      | false =>
        cases pf with
        | false =>
          rw [if_neg (by simp), if_neg (by simp)] at hx1
          subst hx1
          go_wp2
          go_meet
          exact h2.f2
        | true =>
          rcases hs with s7 | s7
          · rw [if_neg (by simp), if_pos ⟨rfl, s7⟩] at hx1
            rw [s7] at c1
            clear s7 s1 s2 s3
            subst hx1
            go_wp2_with fail
            refine (e_told e x 7 ⟨#[65]⟩ (by omega) w0 _ _ h2.f2).mono ?_
            rintro r w1 ⟨rfl, h3⟩
            clear d c1 h2
            go_wp2
            go_meet
            exact h3
          · rw [if_neg (by simp), if_neg (by rw [s7]; simp)] at hx1
            rw [s7] at c1
            clear s7 s1 s2 s3
            subst hx1
            go_wp2
            go_meet
            exact h2.f2
    case rest =>
      rw [← s1] at hs
      rw [← s2] at ok
      have hl1 : x1.out.length ≤ 97001 := by omega
      clear h2 d HX s1 s2 s3 hl
      have hz := HZ.out
      clear HZ
      unfold En.sup2 at hz
      simp only [] at hz
      have HZ := Lib.hid hz
      clear hz
      obtain ⟨fp, R', c7, hf, hb⟩ := hcut.e_fl
      have d := hcut.f2.cell
      have hf2 := hf.drew
      go_upto_region 6 with fail
      go_still_tail 7, (by kernel_rfl)
      change wpList _ _ _ _ _ wc.drew
      clear hcut hf c7 d
      generalize wc.drew = wd at *
      go_wp2_with fail
      refine (f_set_peer fp x1.fl (k == 2) w0 wd _ hf2).mono ?_
      rintro r w3 ⟨rfl, h4⟩
      have h5 := hb _ _ h4
      clear hb hf2 h4
      obtain ⟨fp, R', c7, hf, hb, hc⟩ := h5.e_fl2
      have d6 : w3.cell? ⟨ga, 6, none⟩ = some (.int .i64 nr) := h5.f2.cell 6
      go_upto_region 7 with fail
      clear h5
      have hk := f_ack fp (Fl.withPeer x1.fl (k == 2)) nr w0 w3.drew _ hf.drew (ok.peer (k == 2))
      have okA := (ok.peer (k == 2)).ack nr
      have hz := HZ.out
      clear HZ
      generalize (Fl.withPeer x1.fl (k == 2)).ack nr = A at *
      obtain ⟨fl3, n, b⟩ := A
      simp only [] at hk okA hz
      have hs' : ((x1.setFl (Fl.withPeer x1.fl (k == 2))).setFl fl3).state = 7 ∨ ((x1.setFl (Fl.withPeer x1.fl (k == 2))).setFl fl3).state = 8 := hs
      have hl' : ((x1.setFl (Fl.withPeer x1.fl (k == 2))).setFl fl3).out.length ≤ 97001 := hl1
      have ok' : ((x1.setFl (Fl.withPeer x1.fl (k == 2))).setFl fl3).fl.Ok := okA
      have hb' := fun w' h => hb w' fl3 h
      have hc' := fun w' h => hc w' fl3 h
      clear hb hc hs hl1 okA ok hf
      generalize (x1.setFl (Fl.withPeer x1.fl (k == 2))).setFl fl3 = x3 at *
      unfold En.sup3 at hz
      simp only [] at hz
      have HZ := Lib.hid hz
      clear hz
      go_region_held3 (fun wx => wx.cell? ⟨e, 7, none⟩ = some (ptr fp) ∧ wx.cell? ⟨ga, 6, none⟩ = some (.int .i64 nr)) (first | (with_reducible exact ⟨c7, d6⟩) | (with_reducible exact ⟨m0, m1⟩) | go_keep) (first | (go_at_call 62; with_reducible refine hk.mono ?_; rintro r w4 ⟨rfl, h6⟩; have h7 := hb' _ h6; have m0 := hc' _ h6; have m1 := (h7.f2.cell 6).trans (show _ = some (Value.int .i64 nr) from rfl)))
      clear hb' hc' h6 hk m0 m1 c7 d6
      have c1 := h7.e_c1
      have d := h7.f2.cell
      by_cases hb : b = 0
      · subst hb
        have hz := HZ.out
        clear HZ
        rw [if_neg (by simp)] at hz
        by_cases hfin : x3.state = 8 ∧ (cmd = true ∨ pf = false)
        · rw [if_pos hfin] at hz
          subst hz
          obtain ⟨s8, hfin⟩ := hfin
          rw [s8] at c1
          have hF : (!cmd && pf) = false := by cases cmd <;> cases pf <;> simp_all
          rw [hF]
          go_wp2
          refine bodyPost_ret (v := .tuple #[]) (by simp [results, Tryd.results55, go_sem]) rfl ?_
          exact ⟨rfl, (h7).f2.drop⟩
        rw [if_neg hfin] at hz
        by_cases hrr : x3.state = 7 ∧ k = 1
        · rw [if_pos hrr] at hz
          subst hz
          obtain ⟨s7, rfl⟩ := hrr
          rw [s7] at c1
          have l1 := count_len x3 n
          have okc : (x3.count n).fl.Ok := by rw [count_fl]; exact ok'
          go_wp2_with fail
          refine (e_count e x3 n ok' (by omega) w0 _ _ h7).mono ?_
          rintro r w5 ⟨rfl, h8⟩
          clear d c1 h7
          go_wp2_with fail
          refine (e_goOn e (x3.count n) okc (by omega) w0 _ _ h8).mono ?_
          rintro r w9 ⟨rfl, h9⟩
          go_wp2
          first
            | (go_end0; exact ⟨rfl, h9.f2.drop⟩)
            | (refine bodyPost_ret (v := .tuple #[]) (by simp [results, go_sem]) rfl ?_; exact ⟨rfl, h9.f2.drop⟩)
        rw [if_neg hrr] at hz
        rcases hs' with s7 | s8
        · have k1 : (k == 1) = false := by simpa using fun h => hrr ⟨s7, h⟩
          rw [s7] at c1
          by_cases k2 : k = 2
          · subst k2
            rw [if_neg (show ¬ ((2 : Int) ≠ 2) by simp), if_pos s7, if_neg (show ¬ (x3.state = 8 ∨ (2 : Int) = 3) by rw [s7]; decide)] at hz
            subst hz
            have l1 := x3.stop_len 203
            have l2 := (x3.stop 203).start_len 200
            go_wp2_with fail
            refine (e_stop e x3 203 (.inr rfl) (by omega) w0 _ _ h7).mono ?_
            rintro r w5 ⟨rfl, h8⟩
            clear d c1 h7
            go_wp2_with fail
            refine (e_start e (x3.stop 203) 200 (.inl rfl) (by omega) w0 _ _ h8).mono ?_
            rintro r w6 ⟨rfl, h9⟩
            have s9 : ((x3.stop 203).start 200).state = 7 := by rw [En.start_state, En.stop_state, s7]
            have okz : ((x3.stop 203).start 200).fl.Ok := by rw [En.start_fl, En.stop_fl]; exact ok'
            clear h8
            have c2 := h9.e_c1
            rw [s9] at c2
            have d := h9.f2.cell
            have f9 := h9.e_fr
            have h10 := h9.e_set_state 7
            go_wp2_with fail
            refine (e_goOn e (((x3.stop 203).start 200).setState 7) okz (show ((x3.stop 203).start 200).out.length ≤ 99000 by omega) w0 _ _ h10).mono ?_
            rintro r w9 ⟨rfl, h9⟩
            go_wp2
            first
              | (go_end0; exact ⟨rfl, h9.f2.drop⟩)
              | (refine bodyPost_ret (v := .tuple #[]) (by simp [results, go_sem]) rfl ?_; exact ⟨rfl, h9.f2.drop⟩)
          · rw [if_pos (show k ≠ 2 from k2)] at hz
            have bk2 : (k == 2) = false := by simpa using k2
            have bk2n : (k != 2) = true := by simpa using k2
            have l1 := x3.stop_len 200
            have l2 := (x3.stop 200).start_len 203
            go_wp2_with fail
            refine (e_stop e x3 200 (.inl rfl) (by omega) w0 _ _ h7).mono ?_
            rintro r w5 ⟨rfl, h8⟩
            clear d c1 h7
            go_wp2_with fail
            refine (e_start e (x3.stop 200) 203 (.inr rfl) (by omega) w0 _ _ h8).mono ?_
            rintro r w6 ⟨rfl, h9⟩
            have s9 : ((x3.stop 200).start 203).state = 7 := by rw [En.start_state, En.stop_state, s7]
            have okz : ((x3.stop 200).start 203).fl.Ok := by rw [En.start_fl, En.stop_fl]; exact ok'
            clear h8
            by_cases k3 : k = 3
            · subst k3
              rw [if_pos (show x3.state = 8 ∨ (3 : Int) = 3 from .inr rfl)] at hz
              obtain ⟨fp, R', c7, hf, hb⟩ := h9.e_fl
              have c2 := h9.e_c1
              rw [s9] at c2
              have d := h9.f2.cell
              have okb := okz.back
              have lz : ((x3.stop 200).start 203).out.length ≤ 98000 := by omega
              generalize hZ : (x3.stop 200).start 203 = Z at *
              clear hZ
              subst hz
              go_wp2_with fail
              refine (f_back fp (Z).fl w0 _ _ hf).mono ?_
              rintro r w7 ⟨rfl, h10⟩
              have h11 := hb _ _ h10
              have c3 := h11.e_c1
              have f11 := h11.e_fr
              have h12 := h11.e_set_state 7
              clear hb hf h10 h9 c7 c2 d
              go_wp2_with fail
              refine (e_goOn e (((Z).setFl (Z).fl.back).setState 7) okb (show (Z).out.length ≤ 99000 by omega) w0 _ _ h12).mono ?_
              rintro r w9 ⟨rfl, h9⟩
              go_wp2
              first
                | (go_end0; exact ⟨rfl, h9.f2.drop⟩)
                | (refine bodyPost_ret (v := .tuple #[]) (by simp [results, go_sem]) rfl ?_; exact ⟨rfl, h9.f2.drop⟩)
            · rw [if_neg (show ¬ (x3.state = 8 ∨ k = 3) by rw [s7]; simpa using k3)] at hz
              have bk3 : (k == 3) = false := by simpa using k3
              subst hz
              have c2 := h9.e_c1
              rw [s9] at c2
              have d := h9.f2.cell
              have f9 := h9.e_fr
              have h10 := h9.e_set_state 7
              go_wp2_with fail
              refine (e_goOn e (((x3.stop 200).start 203).setState 7) okz (show ((x3.stop 200).start 203).out.length ≤ 99000 by omega) w0 _ _ h10).mono ?_
              rintro r w9 ⟨rfl, h9⟩
              go_wp2
              first
                | (go_end0; exact ⟨rfl, h9.f2.drop⟩)
                | (refine bodyPost_ret (v := .tuple #[]) (by simp [results, go_sem]) rfl ?_; exact ⟨rfl, h9.f2.drop⟩)
        · have nf : cmd = false ∧ pf = true := by cases cmd <;> cases pf <;> simp_all
          obtain ⟨rfl, rfl⟩ := nf
          rw [s8] at c1
          by_cases k2 : k = 2
          · subst k2
            rw [if_neg (show ¬ ((2 : Int) ≠ 2) by simp), if_neg (show ¬ (x3.state = 7) by rw [s8]; decide), if_pos (show x3.state = 8 ∨ (2 : Int) = 3 from .inl s8)] at hz
            have l2 := x3.start_len 200
            go_wp2_with fail
            refine (e_start e x3 200 (.inl rfl) (by omega) w0 _ _ h7).mono ?_
            rintro r w6 ⟨rfl, h9⟩
            have s9 : (x3.start 200).state = 8 := by rw [En.start_state, s8]
            have okz : (x3.start 200).fl.Ok := by rw [En.start_fl]; exact ok'
            clear d c1 h7
            obtain ⟨fp, R', c7, hf, hb⟩ := h9.e_fl
            have c2 := h9.e_c1
            rw [s9] at c2
            have d := h9.f2.cell
            have okb := okz.back
            have lz : (x3.start 200).out.length ≤ 98000 := by omega
            generalize hZ : x3.start 200 = Z at *
            clear hZ
            subst hz
            go_wp2_with fail
            refine (f_back fp (Z).fl w0 _ _ hf).mono ?_
            rintro r w7 ⟨rfl, h10⟩
            have h11 := hb _ _ h10
            have c3 := h11.e_c1
            have f11 := h11.e_fr
            have h12 := h11.e_set_state 7
            clear hb hf h10 h9 c7 c2 d
            go_wp2_with fail
            refine (e_goOn e (((Z).setFl (Z).fl.back).setState 7) okb (show (Z).out.length ≤ 99000 by omega) w0 _ _ h12).mono ?_
            rintro r w9 ⟨rfl, h9⟩
            go_wp2
            first
              | (go_end0; exact ⟨rfl, h9.f2.drop⟩)
              | (refine bodyPost_ret (v := .tuple #[]) (by simp [results, go_sem]) rfl ?_; exact ⟨rfl, h9.f2.drop⟩)
          · rw [if_pos (show k ≠ 2 from k2), if_pos (show x3.state = 8 ∨ k = 3 from .inl s8)] at hz
            have bk2 : (k == 2) = false := by simpa using k2
            have bk2n : (k != 2) = true := by simpa using k2
            have l1 := x3.stop_len 200
            have l2 := (x3.stop 200).start_len 203
            go_wp2_with fail
            refine (e_stop e x3 200 (.inl rfl) (by omega) w0 _ _ h7).mono ?_
            rintro r w5 ⟨rfl, h8⟩
            clear d c1 h7
            go_wp2_with fail
            refine (e_start e (x3.stop 200) 203 (.inr rfl) (by omega) w0 _ _ h8).mono ?_
            rintro r w6 ⟨rfl, h9⟩
            have s9 : ((x3.stop 200).start 203).state = 8 := by rw [En.start_state, En.stop_state, s8]
            have okz : ((x3.stop 200).start 203).fl.Ok := by rw [En.start_fl, En.stop_fl]; exact ok'
            clear h8
            obtain ⟨fp, R', c7, hf, hb⟩ := h9.e_fl
            have c2 := h9.e_c1
            rw [s9] at c2
            have d := h9.f2.cell
            have okb := okz.back
            have lz : ((x3.stop 200).start 203).out.length ≤ 98000 := by omega
            generalize hZ : (x3.stop 200).start 203 = Z at *
            clear hZ
            subst hz
            go_wp2_with fail
            refine (f_back fp (Z).fl w0 _ _ hf).mono ?_
            rintro r w7 ⟨rfl, h10⟩
            have h11 := hb _ _ h10
            have c3 := h11.e_c1
            have f11 := h11.e_fr
            have h12 := h11.e_set_state 7
            clear hb hf h10 h9 c7 c2 d
            go_wp2_with fail
            refine (e_goOn e (((Z).setFl (Z).fl.back).setState 7) okb (show (Z).out.length ≤ 99000 by omega) w0 _ _ h12).mono ?_
            rintro r w9 ⟨rfl, h9⟩
            go_wp2
            first
              | (go_end0; exact ⟨rfl, h9.f2.drop⟩)
              | (refine bodyPost_ret (v := .tuple #[]) (by simp [results, go_sem]) rfl ?_; exact ⟨rfl, h9.f2.drop⟩)
      · have hz := HZ.out
        clear HZ
        rw [if_pos hb] at hz
        subst hz
        have bb : (b != 0) = true := by simpa using hb
        go_wp2_with fail
        refine (e_anew e x3 ⟨#[74]⟩ ok' (by omega) w0 _ _ h7).mono ?_
        rintro r w5 ⟨rfl, h8⟩
        go_wp2
        refine bodyPost_ret (v := .tuple #[]) (by simp [results, Tryd.results55, go_sem]) rfl ?_
        exact ⟨rfl, (h8).f2.drop⟩
end Go.Proofs.YtoophfokbioaaaaDoor
