/- The entity: Assign. -/
import Derived.Test.YtoophfokbioaaaaDoorEntV
namespace Go.Proofs.YtoophfokbioaaaaDoor
open Go.RowKit

theorem St.row_str {w0 w : World} {R : HP} {a : Option Addr} {n cap : Nat} {l : List ByteArray} (h : St w0 w (Row 9 1 (.slice a n cap) n (strs l) * R)) (i : Nat) (hi : i < n) : ∃ b off s, a = some ⟨b, off, none⟩ ∧ l[i]? = some s ∧ w.cell? ⟨b, off + i, none⟩ = some (.string s) := by
  have hl := h.row_len
  simp at hl
  rcases h.row with ⟨a0, _, h0, _⟩ | ⟨g, off, cap', cur, hv, h1, h2, h3, h4, hs⟩
  · omega
  · simp only [Value.slice.injEq] at hv
    obtain ⟨rfl, _, rfl⟩ := hv
    have hc := h.row_cell i (by omega)
    have hli : l[i]? = some l[i] := List.getElem?_eq_getElem (by omega)
    refine ⟨g, off, l[i]'(by omega), rfl, hli, ?_⟩
    rw [hc]
    simp [strs, hli]

set_option maxRecDepth 100000 in
set_option maxHeartbeats 1600000 in
theorem e_assign (e : Nat) (x : En) (t : Int) (ok : x.fl.Ok) (hu : x.units.length ≤ 1000) (hl : x.out.length ≤ 90000) (w0 w : World) (R : HP) (h : St w0 w (EnAt e x * R)) :
    Calls Tryd.prog 8 #[ptr e, .int .i64 t] w fun r w' => ∃ v, r = .returned (.tuple #[v, .int .i64 (x.assign t).2.2]) ∧ St w0 w' (LAt TFx 11 Fx.cells v (x.assign t).2.1 * (EnAt e (x.assign t).1 * R)) := by
  have c1 := h.e_c1
  unfold En.assign
  by_cases ht : t < 0 ∨ 126 < t
  · rw [if_pos ht]
    by_cases h0 : t < 0
    · have b0 : decide (t < 0) = true := by simpa using h0
      go_enter Tryd.func8, Tryd.ntmps8
      go_wp2
      go_ret2
      exact ⟨_, rfl, h.l_nil _ _ _⟩
    · have b0 : decide (t < 0) = false := by simpa using h0
      have b1 : decide (t > 126) = true := by simp; omega
      go_enter Tryd.func8, Tryd.ntmps8
      go_wp2
      go_ret2
      exact ⟨_, rfl, h.l_nil _ _ _⟩
  rw [if_neg ht]
  have b0 : decide (t < 0) = false := by simp; omega
  have b1 : decide (t > 126) = false := by simp; omega
  by_cases h4 : 4 ≤ x.state
  · rw [if_pos h4]
    have b4 : decide (x.state ≥ 4) = true := by simpa using h4
    go_enter Tryd.func8, Tryd.ntmps8
    go_wp2
    go_ret2
    exact ⟨_, rfl, h.l_nil _ _ _⟩
  rw [if_neg h4]
  have b4 : decide (x.state ≥ 4) = false := by simpa using h4
  clear c1 ht h4
  obtain ⟨z, hz⟩ : ∃ z, (let y := x.units.foldl (fun y s => (y.unit s).1) (((x.setTei t).setState 4).setUnits []); if x.state = 3 then (y.setAsked true).call else y) = z := ⟨_, rfl⟩
  have goal : ∀ (P : En × List Fx × Int → Prop), P (z.done, z.out, 0) → P (let y := x.units.foldl (fun y s => (y.unit s).1) (((x.setTei t).setState 4).setUnits []); let z := if x.state = 3 then (y.setAsked true).call else y; (z.done, z.out, 0)) := fun P hP => by rw [← hz] at hP; exact hP
  refine goal (fun q => Calls Tryd.prog 8 #[ptr e, .int .i64 t] w fun r w' => ∃ v, r = .returned (.tuple #[v, .int .i64 q.2.2]) ∧ St w0 w' (LAt TFx 11 Fx.cells v q.2.1 * (EnAt e q.1 * R))) ?_
  clear goal
  simp only [] at hz
  have HZ := Lib.hid hz
  clear hz
  obtain ⟨rm, fp, uv, ov, rl, hr, h1⟩ := h.e_open
  have c := h1.cell
  have f := h1.free
  obtain ⟨n, hn⟩ : ∃ n, x.units.length = n := ⟨_, rfl⟩
  have sh := h1.f5.row_shape
  rw [hn] at sh h1
  obtain ⟨ua, uc, rfl, un, um⟩ := sh
  have hn9 : n ≤ 1000 := by omega
  have hN9 : (n : Int) < 9223372036854775807 := by omega
  have H := Lib.hid h1
  have HNn := Lib.hid hn
  clear h1 h hu hn
  go_enter Tryd.func8, Tryd.ntmps8
  go_upto_region 7 with fail
  go_quiet (fail)
  go_upto_region 8 with fail
  have h2 := (((H.out.drewN nq).set 2 (.int .i64 t)).set 1 (.int .i64 4)).set 6 (.slice none 0 0)
  have h3 := h2.row_nil 9 1
  have h4 := h3.eq (show _ = blk e _ * (LAt TFx 11 Fx.cells ov x.out * (MAt kInt vBool rm rl * (FAt TF TQ fp x.fl * (Row 9 1 (.slice none 0 0) 0 [] * (Row 9 1 (.slice ua n uc) n (strs x.units) * R))))) by ac_rfl)
  have h5 := h4.e_shut (x := ((x.setTei t).setState 4).setUnits []) rfl rfl hr rfl rfl rfl
  clear h2 h3 h4
  go_upto_region 9 with fail
  generalize (((w.drewN nq).setCell ⟨e, 2, none⟩ (.int .i64 t)).setCell ⟨e, 1, none⟩ (.int .i64 4)).setCell ⟨e, 6, none⟩ (.slice none 0 0) = wq at *
  clear c f H hr
  have okq : (((x.setTei t).setState 4).setUnits []).fl.Ok := ok
  have hlq : (((x.setTei t).setState 4).setUnits []).out.length ≤ 90000 := hl
  have hz := HZ.out
  rw [show List.foldl (fun y s => (y.unit s).1) (((x.setTei t).setState 4).setUnits []) x.units = (((x.setTei t).setState 4).setUnits []).unitsK x.units from rfl] at hz
  clear HZ ok hl
  generalize ((x.setTei t).setState 4).setUnits [] = y0 at *
  have hz0 : (if x.state = 3 then ((y0.unitsK x.units).setAsked true).call else y0.unitsK x.units) = z := hz
  have HZ := Lib.hid hz0
  clear hz hz0
  go_wp2
  go_loopw [46] (fun s46 wr => ∃ i : Nat, i ≤ n ∧ s46 = .int .i64 i ∧ St w0 wr (EnAt e (y0.unitsK (x.units.take i)) * (Row 9 1 (.slice ua n uc) n (strs x.units) * R))) (fun s46 _ => n - (intOf s46).toNat)
  case atStart => exact ⟨0, by omega, rfl, h5⟩
  case round =>
    clear h5
    obtain ⟨i, hi, rfl, h2⟩ := hrel
    by_cases hlt : i < n
    · obtain ⟨b, off, s, rfl, hs, hc⟩ := h2.f2.row_str i hlt
      have l1 := unitsK_len (x.units.take i) y0
      have okk : (y0.unitsK (x.units.take i)).fl.Ok := by rw [unitsK_fl]; exact okq
      have htk : (x.units.take i).length ≤ i := by rw [List.length_take]; omega
      have hstep := unitsK_take x.units y0 i s hs
      have HS := Lib.hid hstep
      clear hstep hs
      have hlti : (i : Int) < (n : Int) := by omega
      go_wp2_with fail
      refine (e_unit e (y0.unitsK (x.units.take i)) s okk (by omega) w0 wr _ h2).mono ?_
      rintro r w1 ⟨rfl, h3⟩
      rw [← HS.out] at h3
      clear h2 hc
      go_wp2
      go_roundw
      case rel => exact ⟨i + 1, by omega, by go_num, h3⟩
      case measure => simp [intOf]; omega
    · obtain rfl : i = n := by omega
      have e1 : x.units.take i = x.units := by rw [← HNn.out]; exact List.take_length
      rw [e1] at h2
      have l1 := unitsK_len x.units y0
      rw [HNn.out] at l1
      have okk : (y0.unitsK x.units).fl.Ok := by rw [unitsK_fl]; exact okq
      have lk : (y0.unitsK x.units).out.length ≤ 91000 := by omega
      have hz := HZ.out
      clear HZ e1 l1
      generalize y0.unitsK x.units = y1 at *
      have f2 := h2.e_fr
      by_cases s3 : x.state = 3
      · rw [if_pos s3] at hz
        have b3 : (x.state == 3) = true := by simpa using s3
        subst hz
        have c4 := h2.e_c4
        have h3 := h2.e_set_asked true
        go_wp2_with fail
        refine (e_call e (y1.setAsked true) okk (show y1.out.length ≤ 99990 by omega) w0 _ _ h3).mono ?_
        rintro r w1 ⟨rfl, h6⟩
        clear c4 f2 h2 h3
        go_wp2_with fail
        refine (e_done e _ w0 _ _ h6).mono ?_
        rintro r w7 ⟨v, rfl, h7⟩
        go_wp2
        go_ret2
        exact ⟨v, rfl, h7.f3.drop⟩
      · rw [if_neg s3] at hz
        have b3 : (x.state == 3) = false := by simpa using s3
        subst hz
        have h6 := h2
        go_wp2_with fail
        refine (e_done e _ w0 _ _ h6).mono ?_
        rintro r w7 ⟨v, rfl, h7⟩
        go_wp2
        go_ret2
        exact ⟨v, rfl, h7.f3.drop⟩
end Go.Proofs.YtoophfokbioaaaaDoor
