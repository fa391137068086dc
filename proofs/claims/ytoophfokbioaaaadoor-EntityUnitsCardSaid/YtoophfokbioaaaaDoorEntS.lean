/- The entity: an I comes. -/
import Derived.Test.YtoophfokbioaaaaDoorEntR
namespace Go.Proofs.YtoophfokbioaaaaDoor
open Go.RowKit

def En.inf1 (x0 : En) (f : Fr) (g : Int) : En :=
  if g = 0 then (x0.told 5 f.info).superv false f.pf
  else if g = 1 then x0.send 3 false f.pf
  else if f.pf = true then x0.superv false true else x0
def En.inf3 (x2 : En) (n b : Int) : En :=
  if b ≠ 0 then x2.anew ⟨#[74]⟩
  else if x2.state = 7 then (if x2.fl.peer = false then x2.count n else x2).goOn
  else x2
def En.inf2 (x1 : En) (f : Fr) : En := (x1.setFl (x1.fl.ack f.nr).1).inf3 (x1.fl.ack f.nr).2.1 (x1.fl.ack f.nr).2.2
theorem inf1_state (x : En) (f : Fr) (g : Int) : (x.inf1 f g).state = x.state := by
  unfold En.inf1
  split
  · rfl
  · split
    · rfl
    · split <;> rfl
theorem inf1_fl (x : En) (f : Fr) (g : Int) : (x.inf1 f g).fl = x.fl := by
  unfold En.inf1
  split
  · rfl
  · split
    · rfl
    · split <;> rfl
theorem inf1_len (x : En) (f : Fr) (g : Int) : (x.inf1 f g).out.length ≤ x.out.length + 2 := by
  unfold En.inf1
  split
  · rw [En.superv_len, En.told_len]; omega
  · split
    · rw [En.send_len]; omega
    · split
      · rw [En.superv_len]; omega
      · omega
theorem info_eq (x : En) (f : Fr) : x.info f = ((x.setFl (x.fl.come f.ns).1).inf1 f (x.fl.come f.ns).2).inf2 f := by
  have h := inf1_state (x.setFl (x.fl.come f.ns).1) f (x.fl.come f.ns).2
  have h2 : ((((x.setFl (x.fl.come f.ns).1).inf1 f (x.fl.come f.ns).2).setFl (((x.setFl (x.fl.come f.ns).1).inf1 f (x.fl.come f.ns).2).fl.ack f.nr).1).state = 7) = (x.state = 7) := congrArg (· = 7) h
  unfold En.inf2 En.inf3
  unfold En.info
  exact ite_congr rfl (fun _ => rfl) (fun _ => ite_congr h2.symm (fun _ => rfl) (fun _ => rfl))

theorem view_f3 (a b c g h : Int) (x y z : Bool) (w : World) : (Instr.field 34 (.agg #[.int .i64 a, .int .i64 b, .int .i64 c, .bool x, .bool y, .bool z, .int .i64 g, .int .i64 h]) 3).run Tryd.prog w = .ok (.bool x) w := by kernel_rfl
set_option maxRecDepth 100000 in
set_option maxHeartbeats 1600000 in
theorem e_info (e : Nat) (x : En) (y : Fr) (ok : x.fl.Ok) (hl : x.out.length ≤ 97000) (w0 w : World) (R : HP) (h : St w0 w (EnAt e x * R)) :
    Calls Tryd.prog 54 #[ptr e, .agg y.cells.toArray] w fun r w' => r = .returned (.tuple #[]) ∧ St w0 w' (EnAt e (x.info y) * R) := by
  rw [info_eq]
  obtain ⟨a1, a2, cmd, k, pf, ns, nr, inf⟩ := y
  have h2 := h.alloc (.cells (Fr.cells ⟨a1, a2, cmd, k, pf, ns, nr, inf⟩).toArray TFr)
  clear h
  simp only []
  have hv3 := view_f3
  obtain ⟨z, hz⟩ : ∃ z, ((x.setFl (x.fl.come ns).1).inf1 ⟨a1, a2, cmd, k, pf, ns, nr, inf⟩ (x.fl.come ns).2).inf2 ⟨a1, a2, cmd, k, pf, ns, nr, inf⟩ = z := ⟨_, rfl⟩
  rw [hz]
  have HZ := Lib.hid hz
  clear hz
  go_enter Tryd.func54, Tryd.ntmps54
  go_upto_region 1 with fail
  generalize w.alloc _ = wa at *
  generalize w.heap.size = ga at *
  obtain ⟨fp, R', c7, hf, hb⟩ := h2.f2.e_fl
  have d := h2.cell
  have hf2 := hf.drew
  go_still_tail 6, (by kernel_rfl)
  change wpList _ _ _ _ _ wa.drew
  clear h2 hf c7 d
  generalize wa.drew = wd at *
  have hk := f_come fp x.fl ns w0 wd _ hf2
  have ok2 := ok.come ns
  have hb' := fun w' h => hb w' (x.fl.come ns).1 h
  have hz := HZ.out
  clear HZ hb hf2
  generalize x.fl.come ns = c at *
  obtain ⟨fl0, g⟩ := c
  simp only [] at hk ok2 hb' hz
  have hl0 : (x.setFl fl0).out.length ≤ 97000 := hl
  have ok0 : (x.setFl fl0).fl.Ok := ok2
  clear hl ok ok2
  generalize x.setFl fl0 = x0 at *
  have s1 := inf1_state x0 ⟨a1, a2, cmd, k, pf, ns, nr, inf⟩ g
  have s2 := inf1_fl x0 ⟨a1, a2, cmd, k, pf, ns, nr, inf⟩ g
  have s3 := inf1_len x0 ⟨a1, a2, cmd, k, pf, ns, nr, inf⟩ g
  obtain ⟨x1, hx1⟩ : ∃ x1, x0.inf1 ⟨a1, a2, cmd, k, pf, ns, nr, inf⟩ g = x1 := ⟨_, rfl⟩
  rw [hx1] at s1 s2 s3 hz
  have HX := Lib.hid hx1
  have HZ := Lib.hid hz
  clear hx1 hz
  go_wp2_with fail
  refine hk.mono ?_
  rintro r w3 ⟨rfl, h4⟩
  have h5 := hb' _ h4
  clear hk hb' h4
  have d := h5.f2.cell
  go_upto_block 0 with fail
  go_cut [] (fun wx => St w0 wx (EnAt e x1 * (blk ga (.cells #[.int .i64 a1, .int .i64 a2, .bool cmd, .int .i64 k, .bool pf, .int .i64 ns, .int .i64 nr, .string inf] TFr (0, 0)) * R)))
  case first =>
    have hx1 := HX.out
    clear HX HZ s1 s2 s3
    unfold En.inf1 at hx1
    simp only [] at hx1
    by_cases g0 : g = 0
    · subst g0
      rw [if_pos rfl] at hx1
      subst hx1
      have l1 := x0.told_len 5 inf
      go_wp2_with fail
      refine (e_told e x0 5 inf (by omega) w0 _ _ h5).mono ?_
      rintro r w4 ⟨rfl, h6⟩
      clear d h5
      have d := h6.f2.cell
      go_wp2_with fail
      refine (e_superv e (x0.told 5 inf) false pf ok0 (by omega) w0 _ _ h6).mono ?_
      rintro r w5 ⟨rfl, h7⟩
      clear d h6
      go_wp2
      go_meet
      exact h7
    rw [if_neg g0] at hx1
    have b0 : (g == 0) = false := by simpa using g0
    by_cases g1 : g = 1
    · subst g1
      rw [if_pos rfl] at hx1
      subst hx1
      go_wp2_with fail
      refine (e_send e x0 3 false pf ok0 (by omega) w0 _ _ h5).mono ?_
      rintro r w4 ⟨rfl, h6⟩
      clear d h5
      go_wp2
      go_meet
      exact h6
    rw [if_neg g1] at hx1
    have b1 : (g == 1) = false := by simpa using g1
    cases pf with
    | true =>
      rw [if_pos rfl] at hx1
      subst hx1
      go_wp2_with fail
      refine (e_superv e x0 false true ok0 (by omega) w0 _ _ h5).mono ?_
      rintro r w5 ⟨rfl, h7⟩
      clear d h5
      go_wp2
      go_meet
      exact h7
    | false =>
      rw [if_neg (by simp)] at hx1
      subst hx1
      go_wp2
      go_meet
      exact h5
  case rest =>
    rw [← s2] at ok0
    have hl1 : x1.out.length ≤ 97002 := by omega
    clear h5 d HX s1 s2 s3 hl0
    obtain ⟨fp, R', c7, hf, hb, hc⟩ := hcut.e_fl2
    have d6 : wc.cell? ⟨ga, 6, none⟩ = some (.int .i64 nr) := hcut.f2.cell 6
    go_upto_region 9 with fail
    have hk := f_ack fp x1.fl nr w0 wc.drew _ hf.drew ok0
    have okA := ok0.ack nr
    have hz := HZ.out
    clear HZ hcut
    unfold En.inf2 at hz
    simp only [] at hz
    generalize x1.fl.ack nr = A at *
    obtain ⟨fl3, n, b⟩ := A
    simp only [] at hk okA hz
    have hl' : (x1.setFl fl3).out.length ≤ 97002 := hl1
    have ok' : (x1.setFl fl3).fl.Ok := okA
    have hb' := fun w' h => hb w' fl3 h
    have hc' := fun w' h => hc w' fl3 h
    clear hb hc hl1 okA ok0 hf
    generalize x1.setFl fl3 = x3 at *
    unfold En.inf3 at hz
    have HZ := Lib.hid hz
    clear hz
    go_region_held3 (fun wx => wx.cell? ⟨e, 7, none⟩ = some (ptr fp) ∧ wx.cell? ⟨ga, 6, none⟩ = some (.int .i64 nr)) (first | (with_reducible exact ⟨c7, d6⟩) | (with_reducible exact ⟨m0, m1⟩) | go_keep) (first | (go_at_call 62; with_reducible refine hk.mono ?_; rintro r w4 ⟨rfl, h6⟩; have h7 := hb' _ h6; have m0 := hc' _ h6; have m1 := (h7.f2.cell 6).trans (show _ = some (Value.int .i64 nr) from rfl)))
    rename_i hheld
    clear hheld
    clear hb' hc' h6 hk m0 m1 c7 d6
    have c1 := h7.e_c1
    have hz := HZ.out
    clear HZ
    by_cases hb : b = 0
    · subst hb
      rw [if_neg (by simp)] at hz
      by_cases s7 : x3.state = 7
      · rw [if_pos s7] at hz
        rw [s7] at c1
        clear s7
        obtain ⟨fp, R', c7, hf, hb⟩ := h7.e_fl
        have hv := f_view fp x3.fl w0 w4 _ hf ok'
        unfold Fl.view at hv
        cases hp : x3.fl.peer with
        | false =>
          rw [hp] at hv
          rw [if_pos hp] at hz
          subst hz
          clear hp
          have l1 := count_len x3 n
          have okc : (x3.count n).fl.Ok := by rw [count_fl]; exact ok'
          go_wp2_with fail
          refine hv.mono ?_
          rintro r w5 ⟨rfl, h8⟩
          have h9 : St w0 w5 (EnAt e x3 * _) := hb _ _ h8
          clear hb hf h8 hv h7 c7 c1
          go_wp2_with fail
          refine (e_count e x3 n ok' (by omega) w0 _ _ h9).mono ?_
          rintro r w6 ⟨rfl, h10⟩
          clear h9
          go_wp2_with fail
          refine (e_goOn e (x3.count n) okc (by omega) w0 _ _ h10).mono ?_
          rintro r w9 ⟨rfl, h9⟩
          go_wp2
          first
            | (go_end0; exact ⟨rfl, h9.f2.drop⟩)
            | (refine bodyPost_ret (v := .tuple #[]) (by simp [results, go_sem]) rfl ?_; exact ⟨rfl, h9.f2.drop⟩)
        | true =>
          rw [hp] at hv
          rw [if_neg (by rw [hp]; simp)] at hz
          subst hz
          clear hp
          go_wp2_with fail
          refine hv.mono ?_
          rintro r w5 ⟨rfl, h8⟩
          have h9 : St w0 w5 (EnAt e x3 * _) := hb _ _ h8
          clear hb hf h8 hv h7 c7 c1
          go_wp2_with fail
          refine (e_goOn e x3 ok' (by omega) w0 _ _ h9).mono ?_
          rintro r w9 ⟨rfl, h9⟩
          go_wp2
          first
            | (go_end0; exact ⟨rfl, h9.f2.drop⟩)
            | (refine bodyPost_ret (v := .tuple #[]) (by simp [results, go_sem]) rfl ?_; exact ⟨rfl, h9.f2.drop⟩)
      · rw [if_neg s7] at hz
        have b7 : (x3.state == 7) = false := by simpa using s7
        subst hz
        go_wp2
        first
          | (go_end0; exact ⟨rfl, h7.f2.drop⟩)
          | (refine bodyPost_ret (v := .tuple #[]) (by simp [results, go_sem]) rfl ?_; exact ⟨rfl, h7.f2.drop⟩)
    · rw [if_pos hb] at hz
      subst hz
      have bb : (b != 0) = true := by simpa using hb
      go_wp2_with fail
      refine (e_anew e x3 ⟨#[74]⟩ ok' (by omega) w0 _ _ h7).mono ?_
      rintro r w9 ⟨rfl, h9⟩
      go_wp2
      first
        | (go_end0; exact ⟨rfl, h9.f2.drop⟩)
        | (refine bodyPost_ret (v := .tuple #[]) (by simp [results, go_sem]) rfl ?_; exact ⟨rfl, h9.f2.drop⟩)
end Go.Proofs.YtoophfokbioaaaaDoor
