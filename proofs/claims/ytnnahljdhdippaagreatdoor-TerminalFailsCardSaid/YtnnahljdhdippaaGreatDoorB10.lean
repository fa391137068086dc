/- The entity: Assign. The entity: View. -/
import Derived.Test.YtnnahljdhdippaaGreatDoorB9
namespace Go.Proofs.YtnnahljdhdippaaGreatDoor
open Go.RowKit

theorem St.row_str {w0 w : World} {R : HP} {a : Option Addr} {n cap : Nat} {l : List ByteArray} (h : St w0 w (Row 9 1 (.slice a n cap) n (strs l) * R)) (i : Nat) (hi : i < n) : ∃ b off s, a = some ⟨b, off, none⟩ ∧ l[i]? = some s ∧ w.cell? ⟨b, off + i, none⟩ = some (.string s) := by
  have hl := h.row_len
  simp at hl
  rcases h.row with ⟨a0, _, h0, _⟩ | ⟨g, off, cap', cur, hv, h1, h2, h3, h4, hs⟩
  · omega
  · simp only [Value.slice.injEq] at hv
    obtain ⟨rfl, _, rfl⟩ := hv
    have hc := h.row_cell i (by omega)
    have hli : l[i]? = some l[i] := List.getElem?_eq_getElem (by omega)
    refine ⟨g, off, l[i]'(by omega), rfl, hli, ?_⟩
    rw [hc]
    simp [strs, hli]

set_option maxRecDepth 100000 in
set_option maxHeartbeats 1600000 in
theorem e_assign (e : Nat) (x : En) (t : Int) (ok : x.fl.Ok) (hu : x.units.length ≤ 1000) (hl : x.out.length ≤ 90000) (w0 w : World) (R : HP) (h : St w0 w (EnAt e x * R)) :
    Calls Tryz.prog 129 #[ptr e, .int .i64 t] w fun r w' => ∃ v, r = .returned (.tuple #[v, .int .i64 (x.assign t).2.2]) ∧ St w0 w' (LAt TFx 11 Fx.cells v (x.assign t).2.1 * (EnAt e (x.assign t).1 * R)) := by
  have c1 := h.e_c1
  unfold En.assign
  by_cases ht : t < 0 ∨ 126 < t
  · rw [if_pos ht]
    by_cases h0 : t < 0
    · have b0 : decide (t < 0) = true := by simpa using h0
      go_enter Tryz.func129, Tryz.ntmps129
      go_wp2
      go_ret2
      exact ⟨_, rfl, h.l_nil _ _ _⟩
    · have b0 : decide (t < 0) = false := by simpa using h0
      have b1 : decide (t > 126) = true := by simp; omega
      go_enter Tryz.func129, Tryz.ntmps129
      go_wp2
      go_ret2
      exact ⟨_, rfl, h.l_nil _ _ _⟩
  rw [if_neg ht]
  have b0 : decide (t < 0) = false := by simp; omega
  have b1 : decide (t > 126) = false := by simp; omega
  by_cases h4 : 4 ≤ x.state
  · rw [if_pos h4]
    have b4 : decide (x.state ≥ 4) = true := by simpa using h4
    go_enter Tryz.func129, Tryz.ntmps129
    go_wp2
    go_ret2
    exact ⟨_, rfl, h.l_nil _ _ _⟩
  rw [if_neg h4]
  have b4 : decide (x.state ≥ 4) = false := by simpa using h4
  clear c1 ht h4
  obtain ⟨z, hz⟩ : ∃ z, (let y := x.units.foldl (fun y s => (y.unit s).1) (((x.setTei t).setState 4).setUnits []); if x.state = 3 then (y.setAsked true).call else y) = z := ⟨_, rfl⟩
  have goal : ∀ (P : En × List Fx × Int → Prop), P (z.done, z.out, 0) → P (let y := x.units.foldl (fun y s => (y.unit s).1) (((x.setTei t).setState 4).setUnits []); let z := if x.state = 3 then (y.setAsked true).call else y; (z.done, z.out, 0)) := fun P hP => by rw [← hz] at hP; exact hP
  refine goal (fun q => Calls Tryz.prog 129 #[ptr e, .int .i64 t] w fun r w' => ∃ v, r = .returned (.tuple #[v, .int .i64 q.2.2]) ∧ St w0 w' (LAt TFx 11 Fx.cells v q.2.1 * (EnAt e q.1 * R))) ?_
  clear goal
  simp only [] at hz
  have HZ := Lib.hid hz
  clear hz
  obtain ⟨rm, fp, uv, ov, rl, hr, h1⟩ := h.e_open
  have c := h1.cell
  have f := h1.free
  obtain ⟨n, hn⟩ : ∃ n, x.units.length = n := ⟨_, rfl⟩
  have sh := h1.f5.row_shape
  rw [hn] at sh h1
  obtain ⟨ua, uc, rfl, un, um⟩ := sh
  have hn9 : n ≤ 1000 := by omega
  have hN9 : (n : Int) < 9223372036854775807 := by omega
  have H := Lib.hid h1
  have HNn := Lib.hid hn
  clear h1 h hu hn
  go_enter Tryz.func129, Tryz.ntmps129
  go_upto_region 7 with fail
  go_quiet (fail)
  go_upto_region 8 with fail
  have h2 := (((H.out.drewN nq).set 2 (.int .i64 t)).set 1 (.int .i64 4)).set 6 (.slice none 0 0)
  have h3 := h2.row_nil 9 1
  have h4 := h3.eq (show _ = blk e _ * (LAt TFx 11 Fx.cells ov x.out * (MAt kInt vBool rm rl * (FAt TF TQ fp x.fl * (Row 9 1 (.slice none 0 0) 0 [] * (Row 9 1 (.slice ua n uc) n (strs x.units) * R))))) by ac_rfl)
  have h5 := h4.e_shut (x := ((x.setTei t).setState 4).setUnits []) rfl rfl hr rfl rfl rfl
  clear h2 h3 h4
  go_upto_region 9 with fail
  generalize (((w.drewN nq).setCell ⟨e, 2, none⟩ (.int .i64 t)).setCell ⟨e, 1, none⟩ (.int .i64 4)).setCell ⟨e, 6, none⟩ (.slice none 0 0) = wq at *
  clear c f H hr
  have okq : (((x.setTei t).setState 4).setUnits []).fl.Ok := ok
  have hlq : (((x.setTei t).setState 4).setUnits []).out.length ≤ 90000 := hl
  have hz := HZ.out
  rw [show List.foldl (fun y s => (y.unit s).1) (((x.setTei t).setState 4).setUnits []) x.units = (((x.setTei t).setState 4).setUnits []).unitsK x.units from rfl] at hz
  clear HZ ok hl
  generalize ((x.setTei t).setState 4).setUnits [] = y0 at *
  have hz0 : (if x.state = 3 then ((y0.unitsK x.units).setAsked true).call else y0.unitsK x.units) = z := hz
  have HZ := Lib.hid hz0
  clear hz hz0
  go_wp2
  go_loopw [46] (fun s46 wr => ∃ i : Nat, i ≤ n ∧ s46 = .int .i64 i ∧ St w0 wr (EnAt e (y0.unitsK (x.units.take i)) * (Row 9 1 (.slice ua n uc) n (strs x.units) * R))) (fun s46 _ => n - (intOf s46).toNat)
  case atStart => exact ⟨0, by omega, rfl, h5⟩
  case round =>
    clear h5
    obtain ⟨i, hi, rfl, h2⟩ := hrel
    by_cases hlt : i < n
    · obtain ⟨b, off, s, rfl, hs, hc⟩ := h2.f2.row_str i hlt
      have l1 := unitsK_len (x.units.take i) y0
      have okk : (y0.unitsK (x.units.take i)).fl.Ok := by rw [unitsK_fl]; exact okq
      have htk : (x.units.take i).length ≤ i := by rw [List.length_take]; omega
      have hstep := unitsK_take x.units y0 i s hs
      have HS := Lib.hid hstep
      clear hstep hs
      have hlti : (i : Int) < (n : Int) := by omega
      go_wp2_with fail
      refine (e_unit e (y0.unitsK (x.units.take i)) s okk (by omega) w0 wr _ h2).mono ?_
      rintro r w1 ⟨rfl, h3⟩
      rw [← HS.out] at h3
      clear h2 hc
      go_wp2
      go_roundw
      case rel => exact ⟨i + 1, by omega, by go_num, h3⟩
      case measure => simp [intOf]; omega
    · obtain rfl : i = n := by omega
      have e1 : x.units.take i = x.units := by rw [← HNn.out]; exact List.take_length
      rw [e1] at h2
      have l1 := unitsK_len x.units y0
      rw [HNn.out] at l1
      have okk : (y0.unitsK x.units).fl.Ok := by rw [unitsK_fl]; exact okq
      have lk : (y0.unitsK x.units).out.length ≤ 91000 := by omega
      have hz := HZ.out
      clear HZ e1 l1
      generalize y0.unitsK x.units = y1 at *
      have f2 := h2.e_fr
      by_cases s3 : x.state = 3
      · rw [if_pos s3] at hz
        have b3 : (x.state == 3) = true := by simpa using s3
        subst hz
        have c4 := h2.e_c4
        have h3 := h2.e_set_asked true
        go_wp2_with fail
        refine (e_call e (y1.setAsked true) okk (show y1.out.length ≤ 99990 by omega) w0 _ _ h3).mono ?_
        rintro r w1 ⟨rfl, h6⟩
        clear c4 f2 h2 h3
        go_wp2_with fail
        refine (e_done e _ w0 _ _ h6).mono ?_
        rintro r w7 ⟨v, rfl, h7⟩
        go_wp2
        go_ret2
        exact ⟨v, rfl, h7.f3.drop⟩
      · rw [if_neg s3] at hz
        have b3 : (x.state == 3) = false := by simpa using s3
        subst hz
        have h6 := h2
        go_wp2_with fail
        refine (e_done e _ w0 _ _ h6).mono ?_
        rintro r w7 ⟨v, rfl, h7⟩
        go_wp2
        go_ret2
        exact ⟨v, rfl, h7.f3.drop⟩
end Go.Proofs.YtnnahljdhdippaaGreatDoor

namespace Go.Proofs.YtnnahljdhdippaaGreatDoor
open Go.RowKit
set_option maxRecDepth 100000

/-- What View answers. -/
def En.view (x : En) : Array Value := #[.int .i64 x.state, .int .i64 x.tei, .int .i64 x.tries, .bool x.asked, .bool x.t2, .bool x.t3, .int .i64 x.units.length, .int .i64 x.fl.vs, .int .i64 x.fl.va, .int .i64 x.fl.vr, .bool x.fl.peer, .bool x.fl.own, .bool x.fl.refused, .int .i64 x.fl.q.sent, .int .i64 ((x.fl.q.l.length : Int) - x.fl.q.sent)]
abbrev zeroView : Array Value := #[.int .i64 0, .int .i64 0, .int .i64 0, .bool false, .bool false, .bool false, .int .i64 0, .int .i64 0, .int .i64 0, .int .i64 0, .bool false, .bool false, .bool false, .int .i64 0, .int .i64 0]
theorem St.e_lt {w0 w : World} {R : HP} {e : Nat} {x : En} (h : St w0 w (EnAt e x * R)) : e < w.heap.size := by
  obtain ⟨rm, fp, uv, ov, rl, hr, h1⟩ := h.e_open
  exact h1.lt
theorem St.f6 {w0 w : World} {A B C D E F R : HP} (h : St w0 w (A * (B * (C * (D * (E * (F * R))))))) : St w0 w (F * (A * (B * (C * (D * (E * R)))))) := h.eq (by ac_rfl)

/-- what a world shows of an entity that lies open -/
structure Shows (w : World) (e rm fp n uc : Nat) (ua : Option Addr) (state tei tries : Int) (asked t2 t3 : Bool) : Prop where
  k1 : w.cell? ⟨e, 1, none⟩ = some (.int .i64 state)
  k2 : w.cell? ⟨e, 2, none⟩ = some (.int .i64 tei)
  k3 : w.cell? ⟨e, 3, none⟩ = some (.int .i64 tries)
  k4 : w.cell? ⟨e, 4, none⟩ = some (.bool asked)
  k5 : w.cell? ⟨e, 5, none⟩ = some (.map (some rm))
  k6 : w.cell? ⟨e, 6, none⟩ = some (.slice ua n uc)
  k7 : w.cell? ⟨e, 7, none⟩ = some (ptr fp)
  b2 : (Instr.lookup 200 (.map (some rm)) (.int .i64 200) false).run Tryz.prog w = .ok (.bool t2) w
  b3 : (Instr.lookup 200 (.map (some rm)) (.int .i64 203) false).run Tryz.prog w = .ok (.bool t3) w
theorem Shows.mk' {w0 w : World} {R A : HP} {e rm fp n uc : Nat} {ua : Option Addr} {most state tei tries : Int} {asked t2 t3 : Bool} {ov : Value} {rl : BM} (r2 : bOf rl 200 = t2) (r3 : bOf rl 203 = t3)
    (h : St w0 w (blk e (.cells #[.int .i64 most, .int .i64 state, .int .i64 tei, .int .i64 tries, .bool asked, .map (some rm), .slice ua n uc, ptr fp, ov] TEn (0, 0)) * (A * (MAt kInt vBool rm rl * R)))) : Shows w e rm fp n uc ua state tei tries asked t2 t3 := by
  have b2 := h.f3.bm 200 (kok _ (by omega) (by omega))
  have b3 := h.f3.bm 203 (kok _ (by omega) (by omega))
  rw [r2] at b2
  rw [r3] at b3
  exact ⟨h.cell 1, h.cell 2, h.cell 3, h.cell 4, h.cell 5, h.cell 6, h.cell 7, b2, b3⟩
theorem view_set (v0 v1 v2 v3 v4 v5 v6 v7 v8 v9 v10 v11 v12 v13 v14 : Value) : (((((((((((((((zeroView.setIfInBounds 0 v0).setIfInBounds 1 v1).setIfInBounds 2 v2).setIfInBounds 3 v3).setIfInBounds 4 v4).setIfInBounds 5 v5).setIfInBounds 6 v6).setIfInBounds 7 v7).setIfInBounds 8 v8).setIfInBounds 9 v9).setIfInBounds 10 v10).setIfInBounds 11 v11).setIfInBounds 12 v12).setIfInBounds 13 v13).setIfInBounds 14 v14) = #[v0, v1, v2, v3, v4, v5, v6, v7, v8, v9, v10, v11, v12, v13, v14] := by kernel_rfl
theorem view_stored {w0 w6 : World} {R : HP} {e rm fp n uc ga : Nat} {ua : Option Addr} {most state tei tries : Int} {asked t2 t3 : Bool} {ov : Value} {rl : BM} {fl : Fl} {out : List Fx} {us : List Value} (h : St w0 w6 (FAt TF TQ fp fl * (blk e (.cells #[.int .i64 most, .int .i64 state, .int .i64 tei, .int .i64 tries, .bool asked, .map (some rm), .slice ua n uc, ptr fp, ov] TEn (0, 0)) * (LAt TFx 11 Fx.cells ov out * (MAt kInt vBool rm rl * (Row 9 1 (.slice ua n uc) n us * (blk ga (.cells zeroView 49 (0, 0)) * R))))))) :
    St w0 (((((((((((((((w6.setCell ⟨ga, 0, none⟩ (.int .i64 state)).setCell ⟨ga, 1, none⟩ (.int .i64 tei)).setCell ⟨ga, 2, none⟩ (.int .i64 tries)).setCell ⟨ga, 3, none⟩ (.bool asked)).setCell ⟨ga, 4, none⟩ (.bool t2)).setCell ⟨ga, 5, none⟩ (.bool t3)).setCell ⟨ga, 6, none⟩ (.int .i64 n)).setCell ⟨ga, 7, none⟩ (.int .i64 fl.vs)).setCell ⟨ga, 8, none⟩ (.int .i64 fl.va)).setCell ⟨ga, 9, none⟩ (.int .i64 fl.vr)).setCell ⟨ga, 10, none⟩ (.bool fl.peer)).setCell ⟨ga, 11, none⟩ (.bool fl.own)).setCell ⟨ga, 12, none⟩ (.bool fl.refused)).setCell ⟨ga, 13, none⟩ (.int .i64 fl.q.sent)).setCell ⟨ga, 14, none⟩ (.int .i64 ((fl.q.l.length : Int) - fl.q.sent))) (blk ga (.cells #[.int .i64 state, .int .i64 tei, .int .i64 tries, .bool asked, .bool t2, .bool t3, .int .i64 n, .int .i64 fl.vs, .int .i64 fl.va, .int .i64 fl.vr, .bool fl.peer, .bool fl.own, .bool fl.refused, .int .i64 fl.q.sent, .int .i64 ((fl.q.l.length : Int) - fl.q.sent)] 49 (0, 0)) * (FAt TF TQ fp fl * (blk e (.cells #[.int .i64 most, .int .i64 state, .int .i64 tei, .int .i64 tries, .bool asked, .map (some rm), .slice ua n uc, ptr fp, ov] TEn (0, 0)) * (LAt TFx 11 Fx.cells ov out * (MAt kInt vBool rm rl * (Row 9 1 (.slice ua n uc) n us * R)))))) := by
  have h' := (((((((((((((((h.f6.set 0 (.int .i64 state)).set 1 (.int .i64 tei)).set 2 (.int .i64 tries)).set 3 (.bool asked)).set 4 (.bool t2)).set 5 (.bool t3)).set 6 (.int .i64 n)).set 7 (.int .i64 fl.vs)).set 8 (.int .i64 fl.va)).set 9 (.int .i64 fl.vr)).set 10 (.bool fl.peer)).set 11 (.bool fl.own)).set 12 (.bool fl.refused)).set 13 (.int .i64 fl.q.sent)).set 14 (.int .i64 ((fl.q.l.length : Int) - fl.q.sent)))
  rw [view_set] at h'
  exact h'
theorem view_left {w0 w6 : World} {R : HP} {e rm fp n uc ga : Nat} {ua : Option Addr} {most state tei tries : Int} {asked : Bool} {ov : Value} {rl : BM} {fl : Fl} {out : List Fx} {us : List Value} {c : Array Value} (h : St w0 w6 (blk ga (.cells c 49 (0, 0)) * (FAt TF TQ fp fl * (blk e (.cells #[.int .i64 most, .int .i64 state, .int .i64 tei, .int .i64 tries, .bool asked, .map (some rm), .slice ua n uc, ptr fp, ov] TEn (0, 0)) * (LAt TFx 11 Fx.cells ov out * (MAt kInt vBool rm rl * (Row 9 1 (.slice ua n uc) n us * R))))))) : St w0 w6 (blk e (.cells #[.int .i64 most, .int .i64 state, .int .i64 tei, .int .i64 tries, .bool asked, .map (some rm), .slice ua n uc, ptr fp, ov] TEn (0, 0)) * (LAt TFx 11 Fx.cells ov out * (MAt kInt vBool rm rl * (FAt TF TQ fp fl * (Row 9 1 (.slice ua n uc) n us * R))))) := h.drop.b4

set_option maxHeartbeats 1600000 in
theorem e_view (e : Nat) (x : En) (ok : x.fl.Ok) (w0 w : World) (R : HP) (h : St w0 w (EnAt e x * R)) :
    Calls Tryz.prog 40 #[ptr e] w fun r w' => r = .returned (.agg x.view) ∧ St w0 w' (EnAt e x * R) := by
  have ha := h.alloc (.cells zeroView 49)
  obtain ⟨rm, fp, uv, ov, rl, hr, h1⟩ := ha.f2.e_open
  have hne : e ≠ w.heap.size := by have := h.e_lt; omega
  clear ha h
  obtain ⟨most, state, tei, tries, asked, t2, t3, units, fl, out⟩ := x
  simp only [] at *
  obtain ⟨n, hn⟩ : ∃ n, units.length = n := ⟨_, rfl⟩
  have sh := h1.f5.row_shape
  rw [hn] at sh h1
  obtain ⟨ua, uc, rfl, un, um⟩ := sh
  have r2 : bOf rl 200 = t2 := hr 200
  have r3 : bOf rl 203 = t3 := hr 203
  have hgoal : (⟨most, state, tei, tries, asked, t2, t3, units, fl, out⟩ : En).view = #[.int .i64 state, .int .i64 tei, .int .i64 tries, .bool asked, .bool t2, .bool t3, .int .i64 n, .int .i64 fl.vs, .int .i64 fl.va, .int .i64 fl.vr, .bool fl.peer, .bool fl.own, .bool fl.refused, .int .i64 fl.q.sent, .int .i64 ((fl.q.l.length : Int) - fl.q.sent)] := by rw [← hn]; rfl
  rw [hgoal]
  have fin : ∀ w' : World, St w0 w' (blk e (.cells #[.int .i64 most, .int .i64 state, .int .i64 tei, .int .i64 tries, .bool asked, .map (some rm), .slice ua n uc, ptr fp, ov] TEn (0, 0)) * (LAt TFx 11 Fx.cells ov out * (MAt kInt vBool rm rl * (FAt TF TQ fp fl * (Row 9 1 (.slice ua n uc) n (strs units) * R))))) → St w0 w' (EnAt e ⟨most, state, tei, tries, asked, t2, t3, units, fl, out⟩ * R) := fun w' h10 => h10.e_shut (x := ⟨most, state, tei, tries, asked, t2, t3, units, fl, out⟩) rfl rfl hr rfl hn.symm rfl
  clear hn hgoal hr
  go_enter Tryz.func40, Tryz.ntmps40
  go_upto_region 3 with fail
  generalize w.alloc _ = wa at *
  generalize w.heap.size = ga at *
  obtain ⟨k1, k2, k3, k4, k5, k6, k7, b2, b3⟩ := Shows.mk' r2 r3 h1.drew
  have hv := f_view fp fl w0 wa.drew _ h1.f4.drew ok
  unfold Fl.view at hv
  have arm : ∀ w6 : World, St w0 w6 (FAt TF TQ fp fl * (blk e (.cells #[.int .i64 most, .int .i64 state, .int .i64 tei, .int .i64 tries, .bool asked, .map (some rm), .slice ua n uc, ptr fp, ov] TEn (0, 0)) * (LAt TFx 11 Fx.cells ov out * (MAt kInt vBool rm rl * (Row 9 1 (.slice ua n uc) n (strs units) * (blk ga (.cells zeroView 49 (0, 0)) * R)))))) → Shows w6 e rm fp n uc ua state tei tries asked t2 t3 ∧ (∀ i, w6.cell? ⟨ga, i, none⟩ = zeroView[i]?) ∧ (∀ i, w6.frozen? ⟨ga, i, none⟩ = false) ∧ St w0 (((((((((((((((w6.setCell ⟨ga, 0, none⟩ (.int .i64 state)).setCell ⟨ga, 1, none⟩ (.int .i64 tei)).setCell ⟨ga, 2, none⟩ (.int .i64 tries)).setCell ⟨ga, 3, none⟩ (.bool asked)).setCell ⟨ga, 4, none⟩ (.bool t2)).setCell ⟨ga, 5, none⟩ (.bool t3)).setCell ⟨ga, 6, none⟩ (.int .i64 n)).setCell ⟨ga, 7, none⟩ (.int .i64 fl.vs)).setCell ⟨ga, 8, none⟩ (.int .i64 fl.va)).setCell ⟨ga, 9, none⟩ (.int .i64 fl.vr)).setCell ⟨ga, 10, none⟩ (.bool fl.peer)).setCell ⟨ga, 11, none⟩ (.bool fl.own)).setCell ⟨ga, 12, none⟩ (.bool fl.refused)).setCell ⟨ga, 13, none⟩ (.int .i64 fl.q.sent)).setCell ⟨ga, 14, none⟩ (.int .i64 ((fl.q.l.length : Int) - fl.q.sent))) (blk ga (.cells #[.int .i64 state, .int .i64 tei, .int .i64 tries, .bool asked, .bool t2, .bool t3, .int .i64 n, .int .i64 fl.vs, .int .i64 fl.va, .int .i64 fl.vr, .bool fl.peer, .bool fl.own, .bool fl.refused, .int .i64 fl.q.sent, .int .i64 ((fl.q.l.length : Int) - fl.q.sent)] 49 (0, 0)) * (FAt TF TQ fp fl * (blk e (.cells #[.int .i64 most, .int .i64 state, .int .i64 tei, .int .i64 tries, .bool asked, .map (some rm), .slice ua n uc, ptr fp, ov] TEn (0, 0)) * (LAt TFx 11 Fx.cells ov out * (MAt kInt vBool rm rl * (Row 9 1 (.slice ua n uc) n (strs units) * R)))))) ∧ Shows (((((((((((((((w6.setCell ⟨ga, 0, none⟩ (.int .i64 state)).setCell ⟨ga, 1, none⟩ (.int .i64 tei)).setCell ⟨ga, 2, none⟩ (.int .i64 tries)).setCell ⟨ga, 3, none⟩ (.bool asked)).setCell ⟨ga, 4, none⟩ (.bool t2)).setCell ⟨ga, 5, none⟩ (.bool t3)).setCell ⟨ga, 6, none⟩ (.int .i64 n)).setCell ⟨ga, 7, none⟩ (.int .i64 fl.vs)).setCell ⟨ga, 8, none⟩ (.int .i64 fl.va)).setCell ⟨ga, 9, none⟩ (.int .i64 fl.vr)).setCell ⟨ga, 10, none⟩ (.bool fl.peer)).setCell ⟨ga, 11, none⟩ (.bool fl.own)).setCell ⟨ga, 12, none⟩ (.bool fl.refused)).setCell ⟨ga, 13, none⟩ (.int .i64 fl.q.sent)).setCell ⟨ga, 14, none⟩ (.int .i64 ((fl.q.l.length : Int) - fl.q.sent))) e rm fp n uc ua state tei tries asked t2 t3 := fun w6 h6 => ⟨Shows.mk' r2 r3 h6.b4, h6.f6.cell, h6.f6.free, view_stored h6, Shows.mk' r2 r3 (view_left (view_stored h6))⟩
  clear h1
  refine wp_region_held_drew (S := (fun wx => wx.cell? ⟨e, 1, none⟩ = some (.int .i64 state) ∧ wx.cell? ⟨e, 2, none⟩ = some (.int .i64 tei) ∧ wx.cell? ⟨e, 3, none⟩ = some (.int .i64 tries) ∧ wx.cell? ⟨e, 4, none⟩ = some (.bool asked) ∧ wx.cell? ⟨e, 5, none⟩ = some (.map (some rm)) ∧ wx.cell? ⟨e, 6, none⟩ = some (.slice ua n uc) ∧ wx.cell? ⟨e, 7, none⟩ = some (ptr fp) ∧ (Instr.lookup 200 (.map (some rm)) (.int .i64 200) false).run Tryz.prog wx = .ok (.bool t2) wx ∧ (Instr.lookup 200 (.map (some rm)) (.int .i64 203) false).run Tryz.prog wx = .ok (.bool t3) wx)) (by kernel_rfl) ?_ (fun hHeld => ?_)
  · with_reducible exact ⟨k1, k2, k3, k4, k5, k6, k7, b2, b3⟩
  refine wpAnyH_take (i := 0) (oi := { dst := some 6, op := Op.move (Operand.tmp 0), type := 98, pos := "entity.go:110", after := #[], guard := none }) (v := ?_) rfl (by kernel_rfl) (by kernel_rfl) (by kernel_rfl) (fun _ _ _ h => h) (Or.inl ⟨by rfl, ?_⟩) (by assumption) ?_
  rotate_left 1
  · intro w hSw
    try dsimp only at hSw
    go_simp
    try with_reducible rfl
  try simp only [Act.put, List.setIfInBounds_toArray, List.set_cons_zero, List.set_cons_succ]
  refine wpAnyH_take (i := 1) (oi := { dst := some 7, op := Op.nilCheck (Operand.tmp 6), type := 0, pos := "entity.go:110", after := #[{ on := 0, ground := Ground.data }], guard := none }) (v := ?_) rfl (by kernel_rfl) (by kernel_rfl) (by kernel_rfl) (fun _ _ _ h => h) (Or.inl ⟨by rfl, ?_⟩) (by assumption) ?_
  rotate_left 1
  · intro w hSw
    try dsimp only at hSw
    go_simp
    try with_reducible rfl
  try simp only [Act.put, List.setIfInBounds_toArray, List.set_cons_zero, List.set_cons_succ]
  refine wpAnyH_take (i := 2) (oi := { dst := some 8, op := Op.fieldAddr 204 (Operand.tmp 7) 1, type := 0, pos := "entity.go:110", after := #[{ on := 1, ground := Ground.data }], guard := none }) (v := ?_) rfl (by kernel_rfl) (by kernel_rfl) (by kernel_rfl) (fun _ _ _ h => h) (Or.inl ⟨by rfl, ?_⟩) (by assumption) ?_
  rotate_left 1
  · intro w hSw
    try dsimp only at hSw
    go_simp
    try with_reducible rfl
  try simp only [Act.put, List.setIfInBounds_toArray, List.set_cons_zero, List.set_cons_succ]
  refine wpAnyH_take (i := 3) (oi := { dst := some 9, op := Op.load 45 (Operand.tmp 8), type := 45, pos := "entity.go:110", after := #[{ on := 2, ground := Ground.data }], guard := none }) (v := ?_) rfl (by kernel_rfl) (by kernel_rfl) (by kernel_rfl) (fun _ _ _ h => h) (Or.inl ⟨by rfl, ?_⟩) (by assumption) ?_
  rotate_left 1
  · intro w hSw
    try dsimp only at hSw
    go_simp
    try with_reducible rfl
  try simp only [Act.put, List.setIfInBounds_toArray, List.set_cons_zero, List.set_cons_succ]
  refine wpAnyH_take (i := 4) (oi := { dst := some 10, op := Op.move (Operand.tmp 0), type := 98, pos := "entity.go:110", after := #[], guard := none }) (v := ?_) rfl (by kernel_rfl) (by kernel_rfl) (by kernel_rfl) (fun _ _ _ h => h) (Or.inl ⟨by rfl, ?_⟩) (by assumption) ?_
  rotate_left 1
  · intro w hSw
    try dsimp only at hSw
    go_simp
    try with_reducible rfl
  try simp only [Act.put, List.setIfInBounds_toArray, List.set_cons_zero, List.set_cons_succ]
  refine wpAnyH_take (i := 5) (oi := { dst := some 11, op := Op.nilCheck (Operand.tmp 10), type := 0, pos := "entity.go:110", after := #[{ on := 4, ground := Ground.data }], guard := none }) (v := ?_) rfl (by kernel_rfl) (by kernel_rfl) (by kernel_rfl) (fun _ _ _ h => h) (Or.inl ⟨by rfl, ?_⟩) (by assumption) ?_
  rotate_left 1
  · intro w hSw
    try dsimp only at hSw
    go_simp
    try with_reducible rfl
  try simp only [Act.put, List.setIfInBounds_toArray, List.set_cons_zero, List.set_cons_succ]
  refine wpAnyH_take (i := 6) (oi := { dst := some 12, op := Op.fieldAddr 204 (Operand.tmp 11) 2, type := 0, pos := "entity.go:110", after := #[{ on := 5, ground := Ground.data }], guard := none }) (v := ?_) rfl (by kernel_rfl) (by kernel_rfl) (by kernel_rfl) (fun _ _ _ h => h) (Or.inl ⟨by rfl, ?_⟩) (by assumption) ?_
  rotate_left 1
  · intro w hSw
    try dsimp only at hSw
    go_simp
    try with_reducible rfl
  try simp only [Act.put, List.setIfInBounds_toArray, List.set_cons_zero, List.set_cons_succ]
  refine wpAnyH_take (i := 7) (oi := { dst := some 13, op := Op.load 3 (Operand.tmp 12), type := 3, pos := "entity.go:110", after := #[{ on := 6, ground := Ground.data }], guard := none }) (v := ?_) rfl (by kernel_rfl) (by kernel_rfl) (by kernel_rfl) (fun _ _ _ h => h) (Or.inl ⟨by rfl, ?_⟩) (by assumption) ?_
  rotate_left 1
  · intro w hSw
    try dsimp only at hSw
    go_simp
    try with_reducible rfl
  try simp only [Act.put, List.setIfInBounds_toArray, List.set_cons_zero, List.set_cons_succ]
  refine wpAnyH_take (i := 8) (oi := { dst := some 14, op := Op.move (Operand.tmp 0), type := 98, pos := "entity.go:110", after := #[], guard := none }) (v := ?_) rfl (by kernel_rfl) (by kernel_rfl) (by kernel_rfl) (fun _ _ _ h => h) (Or.inl ⟨by rfl, ?_⟩) (by assumption) ?_
  rotate_left 1
  · intro w hSw
    try dsimp only at hSw
    go_simp
    try with_reducible rfl
  try simp only [Act.put, List.setIfInBounds_toArray, List.set_cons_zero, List.set_cons_succ]
  refine wpAnyH_take (i := 9) (oi := { dst := some 15, op := Op.nilCheck (Operand.tmp 14), type := 0, pos := "entity.go:110", after := #[{ on := 8, ground := Ground.data }], guard := none }) (v := ?_) rfl (by kernel_rfl) (by kernel_rfl) (by kernel_rfl) (fun _ _ _ h => h) (Or.inl ⟨by rfl, ?_⟩) (by assumption) ?_
  rotate_left 1
  · intro w hSw
    try dsimp only at hSw
    go_simp
    try with_reducible rfl
  try simp only [Act.put, List.setIfInBounds_toArray, List.set_cons_zero, List.set_cons_succ]
  refine wpAnyH_take (i := 10) (oi := { dst := some 16, op := Op.fieldAddr 204 (Operand.tmp 15) 3, type := 0, pos := "entity.go:110", after := #[{ on := 9, ground := Ground.data }], guard := none }) (v := ?_) rfl (by kernel_rfl) (by kernel_rfl) (by kernel_rfl) (fun _ _ _ h => h) (Or.inl ⟨by rfl, ?_⟩) (by assumption) ?_
  rotate_left 1
  · intro w hSw
    try dsimp only at hSw
    go_simp
    try with_reducible rfl
  try simp only [Act.put, List.setIfInBounds_toArray, List.set_cons_zero, List.set_cons_succ]
  refine wpAnyH_take (i := 11) (oi := { dst := some 17, op := Op.load 3 (Operand.tmp 16), type := 3, pos := "entity.go:110", after := #[{ on := 10, ground := Ground.data }], guard := none }) (v := ?_) rfl (by kernel_rfl) (by kernel_rfl) (by kernel_rfl) (fun _ _ _ h => h) (Or.inl ⟨by rfl, ?_⟩) (by assumption) ?_
  rotate_left 1
  · intro w hSw
    try dsimp only at hSw
    go_simp
    try with_reducible rfl
  try simp only [Act.put, List.setIfInBounds_toArray, List.set_cons_zero, List.set_cons_succ]
  refine wpAnyH_take (i := 12) (oi := { dst := some 18, op := Op.move (Operand.tmp 0), type := 98, pos := "entity.go:110", after := #[], guard := none }) (v := ?_) rfl (by kernel_rfl) (by kernel_rfl) (by kernel_rfl) (fun _ _ _ h => h) (Or.inl ⟨by rfl, ?_⟩) (by assumption) ?_
  rotate_left 1
  · intro w hSw
    try dsimp only at hSw
    go_simp
    try with_reducible rfl
  try simp only [Act.put, List.setIfInBounds_toArray, List.set_cons_zero, List.set_cons_succ]
  refine wpAnyH_take (i := 13) (oi := { dst := some 19, op := Op.nilCheck (Operand.tmp 18), type := 0, pos := "entity.go:110", after := #[{ on := 12, ground := Ground.data }], guard := none }) (v := ?_) rfl (by kernel_rfl) (by kernel_rfl) (by kernel_rfl) (fun _ _ _ h => h) (Or.inl ⟨by rfl, ?_⟩) (by assumption) ?_
  rotate_left 1
  · intro w hSw
    try dsimp only at hSw
    go_simp
    try with_reducible rfl
  try simp only [Act.put, List.setIfInBounds_toArray, List.set_cons_zero, List.set_cons_succ]
  refine wpAnyH_take (i := 14) (oi := { dst := some 20, op := Op.fieldAddr 204 (Operand.tmp 19) 4, type := 0, pos := "entity.go:110", after := #[{ on := 13, ground := Ground.data }], guard := none }) (v := ?_) rfl (by kernel_rfl) (by kernel_rfl) (by kernel_rfl) (fun _ _ _ h => h) (Or.inl ⟨by rfl, ?_⟩) (by assumption) ?_
  rotate_left 1
  · intro w hSw
    try dsimp only at hSw
    go_simp
    try with_reducible rfl
  try simp only [Act.put, List.setIfInBounds_toArray, List.set_cons_zero, List.set_cons_succ]
  refine wpAnyH_take (i := 15) (oi := { dst := some 21, op := Op.load 4 (Operand.tmp 20), type := 4, pos := "entity.go:110", after := #[{ on := 14, ground := Ground.data }], guard := none }) (v := ?_) rfl (by kernel_rfl) (by kernel_rfl) (by kernel_rfl) (fun _ _ _ h => h) (Or.inl ⟨by rfl, ?_⟩) (by assumption) ?_
  rotate_left 1
  · intro w hSw
    try dsimp only at hSw
    go_simp
    try with_reducible rfl
  try simp only [Act.put, List.setIfInBounds_toArray, List.set_cons_zero, List.set_cons_succ]
  refine wpAnyH_take (i := 16) (oi := { dst := some 22, op := Op.move (Operand.tmp 0), type := 98, pos := "entity.go:110", after := #[], guard := none }) (v := ?_) rfl (by kernel_rfl) (by kernel_rfl) (by kernel_rfl) (fun _ _ _ h => h) (Or.inl ⟨by rfl, ?_⟩) (by assumption) ?_
  rotate_left 1
  · intro w hSw
    try dsimp only at hSw
    go_simp
    try with_reducible rfl
  try simp only [Act.put, List.setIfInBounds_toArray, List.set_cons_zero, List.set_cons_succ]
  refine wpAnyH_take (i := 17) (oi := { dst := some 23, op := Op.nilCheck (Operand.tmp 22), type := 0, pos := "entity.go:110", after := #[{ on := 16, ground := Ground.data }], guard := none }) (v := ?_) rfl (by kernel_rfl) (by kernel_rfl) (by kernel_rfl) (fun _ _ _ h => h) (Or.inl ⟨by rfl, ?_⟩) (by assumption) ?_
  rotate_left 1
  · intro w hSw
    try dsimp only at hSw
    go_simp
    try with_reducible rfl
  try simp only [Act.put, List.setIfInBounds_toArray, List.set_cons_zero, List.set_cons_succ]
  refine wpAnyH_take (i := 18) (oi := { dst := some 24, op := Op.fieldAddr 204 (Operand.tmp 23) 5, type := 0, pos := "entity.go:110", after := #[{ on := 17, ground := Ground.data }], guard := none }) (v := ?_) rfl (by kernel_rfl) (by kernel_rfl) (by kernel_rfl) (fun _ _ _ h => h) (Or.inl ⟨by rfl, ?_⟩) (by assumption) ?_
  rotate_left 1
  · intro w hSw
    try dsimp only at hSw
    go_simp
    try with_reducible rfl
  try simp only [Act.put, List.setIfInBounds_toArray, List.set_cons_zero, List.set_cons_succ]
  refine wpAnyH_take (i := 19) (oi := { dst := some 25, op := Op.load 200 (Operand.tmp 24), type := 200, pos := "entity.go:110", after := #[{ on := 18, ground := Ground.data }], guard := none }) (v := ?_) rfl (by kernel_rfl) (by kernel_rfl) (by kernel_rfl) (fun _ _ _ h => h) (Or.inl ⟨by rfl, ?_⟩) (by assumption) ?_
  rotate_left 1
  · intro w hSw
    try dsimp only at hSw
    go_simp
    try with_reducible rfl
  try simp only [Act.put, List.setIfInBounds_toArray, List.set_cons_zero, List.set_cons_succ]
  refine wpAnyH_take (i := 20) (oi := { dst := some 26, op := Op.lookup 200 (Operand.tmp 25) (Operand.const (Value.int IntKind.i64 200)) false, type := 4, pos := "entity.go:110", after := #[{ on := 19, ground := Ground.data }], guard := none }) (v := ?_) rfl (by kernel_rfl) (by kernel_rfl) (by kernel_rfl) (fun _ _ _ h => h) (Or.inl ⟨by rfl, ?_⟩) (by assumption) ?_
  rotate_left 1
  · intro w hSw
    try dsimp only at hSw
    go_simp
    try with_reducible rfl
  try simp only [Act.put, List.setIfInBounds_toArray, List.set_cons_zero, List.set_cons_succ]
  refine wpAnyH_take (i := 21) (oi := { dst := some 27, op := Op.move (Operand.tmp 0), type := 98, pos := "entity.go:110", after := #[], guard := none }) (v := ?_) rfl (by kernel_rfl) (by kernel_rfl) (by kernel_rfl) (fun _ _ _ h => h) (Or.inl ⟨by rfl, ?_⟩) (by assumption) ?_
  rotate_left 1
  · intro w hSw
    try dsimp only at hSw
    go_simp
    try with_reducible rfl
  try simp only [Act.put, List.setIfInBounds_toArray, List.set_cons_zero, List.set_cons_succ]
  refine wpAnyH_take (i := 22) (oi := { dst := some 28, op := Op.nilCheck (Operand.tmp 27), type := 0, pos := "entity.go:110", after := #[{ on := 21, ground := Ground.data }], guard := none }) (v := ?_) rfl (by kernel_rfl) (by kernel_rfl) (by kernel_rfl) (fun _ _ _ h => h) (Or.inl ⟨by rfl, ?_⟩) (by assumption) ?_
  rotate_left 1
  · intro w hSw
    try dsimp only at hSw
    go_simp
    try with_reducible rfl
  try simp only [Act.put, List.setIfInBounds_toArray, List.set_cons_zero, List.set_cons_succ]
  refine wpAnyH_take (i := 23) (oi := { dst := some 29, op := Op.fieldAddr 204 (Operand.tmp 28) 5, type := 0, pos := "entity.go:110", after := #[{ on := 22, ground := Ground.data }], guard := none }) (v := ?_) rfl (by kernel_rfl) (by kernel_rfl) (by kernel_rfl) (fun _ _ _ h => h) (Or.inl ⟨by rfl, ?_⟩) (by assumption) ?_
  rotate_left 1
  · intro w hSw
    try dsimp only at hSw
    go_simp
    try with_reducible rfl
  try simp only [Act.put, List.setIfInBounds_toArray, List.set_cons_zero, List.set_cons_succ]
  refine wpAnyH_take (i := 24) (oi := { dst := some 30, op := Op.load 200 (Operand.tmp 29), type := 200, pos := "entity.go:110", after := #[{ on := 23, ground := Ground.data }], guard := none }) (v := ?_) rfl (by kernel_rfl) (by kernel_rfl) (by kernel_rfl) (fun _ _ _ h => h) (Or.inl ⟨by rfl, ?_⟩) (by assumption) ?_
  rotate_left 1
  · intro w hSw
    try dsimp only at hSw
    go_simp
    try with_reducible rfl
  try simp only [Act.put, List.setIfInBounds_toArray, List.set_cons_zero, List.set_cons_succ]
  refine wpAnyH_take (i := 25) (oi := { dst := some 31, op := Op.lookup 200 (Operand.tmp 30) (Operand.const (Value.int IntKind.i64 203)) false, type := 4, pos := "entity.go:110", after := #[{ on := 24, ground := Ground.data }], guard := none }) (v := ?_) rfl (by kernel_rfl) (by kernel_rfl) (by kernel_rfl) (fun _ _ _ h => h) (Or.inl ⟨by rfl, ?_⟩) (by assumption) ?_
  rotate_left 1
  · intro w hSw
    try dsimp only at hSw
    go_simp
    try with_reducible rfl
  try simp only [Act.put, List.setIfInBounds_toArray, List.set_cons_zero, List.set_cons_succ]
  refine wpAnyH_take (i := 26) (oi := { dst := some 32, op := Op.move (Operand.tmp 0), type := 98, pos := "entity.go:110", after := #[], guard := none }) (v := ?_) rfl (by kernel_rfl) (by kernel_rfl) (by kernel_rfl) (fun _ _ _ h => h) (Or.inl ⟨by rfl, ?_⟩) (by assumption) ?_
  rotate_left 1
  · intro w hSw
    try dsimp only at hSw
    go_simp
    try with_reducible rfl
  try simp only [Act.put, List.setIfInBounds_toArray, List.set_cons_zero, List.set_cons_succ]
  refine wpAnyH_take (i := 27) (oi := { dst := some 33, op := Op.nilCheck (Operand.tmp 32), type := 0, pos := "entity.go:110", after := #[{ on := 26, ground := Ground.data }], guard := none }) (v := ?_) rfl (by kernel_rfl) (by kernel_rfl) (by kernel_rfl) (fun _ _ _ h => h) (Or.inl ⟨by rfl, ?_⟩) (by assumption) ?_
  rotate_left 1
  · intro w hSw
    try dsimp only at hSw
    go_simp
    try with_reducible rfl
  try simp only [Act.put, List.setIfInBounds_toArray, List.set_cons_zero, List.set_cons_succ]
  refine wpAnyH_take (i := 28) (oi := { dst := some 34, op := Op.fieldAddr 204 (Operand.tmp 33) 6, type := 0, pos := "entity.go:110", after := #[{ on := 27, ground := Ground.data }], guard := none }) (v := ?_) rfl (by kernel_rfl) (by kernel_rfl) (by kernel_rfl) (fun _ _ _ h => h) (Or.inl ⟨by rfl, ?_⟩) (by assumption) ?_
  rotate_left 1
  · intro w hSw
    try dsimp only at hSw
    go_simp
    try with_reducible rfl
  try simp only [Act.put, List.setIfInBounds_toArray, List.set_cons_zero, List.set_cons_succ]
  refine wpAnyH_take (i := 29) (oi := { dst := some 35, op := Op.load 51 (Operand.tmp 34), type := 51, pos := "entity.go:110", after := #[{ on := 28, ground := Ground.data }], guard := none }) (v := ?_) rfl (by kernel_rfl) (by kernel_rfl) (by kernel_rfl) (fun _ _ _ h => h) (Or.inl ⟨by rfl, ?_⟩) (by assumption) ?_
  rotate_left 1
  · intro w hSw
    try dsimp only at hSw
    go_simp
    try with_reducible rfl
  try simp only [Act.put, List.setIfInBounds_toArray, List.set_cons_zero, List.set_cons_succ]
  refine wpAnyH_take (i := 30) (oi := { dst := some 36, op := Op.call { callee := Callee.builtin Builtin.len, args := #[Operand.tmp 35], argTypes := #[51] }, type := 3, pos := "entity.go:110", after := #[{ on := 29, ground := Ground.data }], guard := none }) (v := ?_) rfl (by kernel_rfl) (by kernel_rfl) (by kernel_rfl) (fun _ _ _ h => h) (Or.inl ⟨by rfl, ?_⟩) (by assumption) ?_
  rotate_left 1
  · intro w hSw
    try dsimp only at hSw
    go_simp
    try with_reducible rfl
  try simp only [Act.put, List.setIfInBounds_toArray, List.set_cons_zero, List.set_cons_succ]
  refine wpAnyH_take (i := 31) (oi := { dst := some 37, op := Op.move (Operand.tmp 0), type := 98, pos := "entity.go:110", after := #[], guard := none }) (v := ?_) rfl (by kernel_rfl) (by kernel_rfl) (by kernel_rfl) (fun _ _ _ h => h) (Or.inl ⟨by rfl, ?_⟩) (by assumption) ?_
  rotate_left 1
  · intro w hSw
    try dsimp only at hSw
    go_simp
    try with_reducible rfl
  try simp only [Act.put, List.setIfInBounds_toArray, List.set_cons_zero, List.set_cons_succ]
  refine wpAnyH_take (i := 32) (oi := { dst := some 38, op := Op.nilCheck (Operand.tmp 37), type := 0, pos := "entity.go:110", after := #[{ on := 31, ground := Ground.data }], guard := none }) (v := ?_) rfl (by kernel_rfl) (by kernel_rfl) (by kernel_rfl) (fun _ _ _ h => h) (Or.inl ⟨by rfl, ?_⟩) (by assumption) ?_
  rotate_left 1
  · intro w hSw
    try dsimp only at hSw
    go_simp
    try with_reducible rfl
  try simp only [Act.put, List.setIfInBounds_toArray, List.set_cons_zero, List.set_cons_succ]
  refine wpAnyH_take (i := 33) (oi := { dst := some 39, op := Op.fieldAddr 204 (Operand.tmp 38) 7, type := 0, pos := "entity.go:110", after := #[{ on := 32, ground := Ground.data }], guard := none }) (v := ?_) rfl (by kernel_rfl) (by kernel_rfl) (by kernel_rfl) (fun _ _ _ h => h) (Or.inl ⟨by rfl, ?_⟩) (by assumption) ?_
  rotate_left 1
  · intro w hSw
    try dsimp only at hSw
    go_simp
    try with_reducible rfl
  try simp only [Act.put, List.setIfInBounds_toArray, List.set_cons_zero, List.set_cons_succ]
  refine wpAnyH_take (i := 34) (oi := { dst := some 40, op := Op.load 201 (Operand.tmp 39), type := 201, pos := "entity.go:110", after := #[{ on := 33, ground := Ground.data }], guard := none }) (v := ?_) rfl (by kernel_rfl) (by kernel_rfl) (by kernel_rfl) (fun _ _ _ h => h) (Or.inl ⟨by rfl, ?_⟩) (by assumption) ?_
  rotate_left 1
  · intro w hSw
    try dsimp only at hSw
    go_simp
    try with_reducible rfl
  try simp only [Act.put, List.setIfInBounds_toArray, List.set_cons_zero, List.set_cons_succ]
  refine wpAnyH_ready (rs := [35]) (by kernel_rfl) (by simp) ?_
  refine AllReadyH.cons (o := { dst := some 41, op := Op.call { callee := Callee.value (Operand.func 81), args := #[Operand.tmp 40], argTypes := #[201] }, type := 47, pos := "entity.go:110", after := #[{ on := 34, ground := Ground.data }], guard := none }) rfl (fun K hK => ?_) ?_
  rotate_left 1
  · exact AllReadyH.nil
  go_simp
  go_at_call 81
  refine hv.mono ?_
  rintro r w6 ⟨rfl, h6⟩
  obtain ⟨⟨m1, m2, m3, m4, m5, m6, m7, e2, e3⟩, c6, f6, h9, ⟨q1, q2, q3, q4, q5, q6, q7, p2, p3⟩⟩ := arm w6 h6
  go_simp
  refine hK.out _ _ ⟨m1, m2, m3, m4, m5, m6, m7, e2, e3⟩ (fun hHeld => ?_)
  clear hK K
  try simp only [Act.put, List.setIfInBounds_toArray, List.set_cons_zero, List.set_cons_succ]
  refine wpAnyH_take (i := 36) (oi := { dst := some 42, op := Op.build 49 #[(0, Operand.tmp 9), (1, Operand.tmp 13), (2, Operand.tmp 17), (3, Operand.tmp 21), (4, Operand.tmp 26), (5, Operand.tmp 31), (6, Operand.tmp 36), (7, Operand.tmp 41)], type := 49, pos := "entity.go:110", after := #[{ on := 3, ground := Ground.data }, { on := 7, ground := Ground.data }, { on := 11, ground := Ground.data }, { on := 15, ground := Ground.data }, { on := 20, ground := Ground.data }, { on := 25, ground := Ground.data }, { on := 30, ground := Ground.data }, { on := 35, ground := Ground.data }], guard := none }) (v := ?_) rfl (by kernel_rfl) (by kernel_rfl) (by kernel_rfl) (fun _ _ _ h => h) (Or.inl ⟨by rfl, ?_⟩) (by assumption) ?_
  rotate_left 1
  · intro w hSw
    try dsimp only at hSw
    go_simp
    try with_reducible rfl
  try simp only [Act.put, List.setIfInBounds_toArray, List.set_cons_zero, List.set_cons_succ]
  refine wpAnyH_ready (rs := [37]) (by kernel_rfl) (by simp) ?_
  refine AllReadyH.cons (o := { dst := none, op := Op.store 49 (Operand.tmp 2) (Operand.tmp 42), type := 0, pos := "entity.go:110", after := #[{ on := 36, ground := Ground.data }, { on := 35, ground := Ground.chain }, { on := 0, ground := Ground.phase }, { on := 1, ground := Ground.phase }, { on := 2, ground := Ground.phase }, { on := 3, ground := Ground.phase }, { on := 4, ground := Ground.phase }, { on := 5, ground := Ground.phase }, { on := 6, ground := Ground.phase }, { on := 7, ground := Ground.phase }, { on := 8, ground := Ground.phase }, { on := 9, ground := Ground.phase }, { on := 10, ground := Ground.phase }, { on := 11, ground := Ground.phase }, { on := 12, ground := Ground.phase }, { on := 13, ground := Ground.phase }, { on := 14, ground := Ground.phase }, { on := 15, ground := Ground.phase }, { on := 16, ground := Ground.phase }, { on := 17, ground := Ground.phase }, { on := 18, ground := Ground.phase }, { on := 19, ground := Ground.phase }, { on := 20, ground := Ground.phase }, { on := 21, ground := Ground.phase }, { on := 22, ground := Ground.phase }, { on := 23, ground := Ground.phase }, { on := 24, ground := Ground.phase }, { on := 25, ground := Ground.phase }, { on := 26, ground := Ground.phase }, { on := 27, ground := Ground.phase }, { on := 28, ground := Ground.phase }, { on := 29, ground := Ground.phase }, { on := 30, ground := Ground.phase }, { on := 31, ground := Ground.phase }, { on := 32, ground := Ground.phase }, { on := 33, ground := Ground.phase }, { on := 34, ground := Ground.phase }, { on := 35, ground := Ground.phase }, { on := 36, ground := Ground.phase }], guard := none }) rfl (fun K hK => ?_) ?_
  rotate_left 1
  · exact AllReadyH.nil
  go_simp
  go_simp
  refine hK.out _ _ ⟨q1, q2, q3, q4, q5, q6, q7, p2, p3⟩ (fun hHeld => ?_)
  clear hK K
  try simp only [Act.put, List.setIfInBounds_toArray, List.set_cons_zero, List.set_cons_succ]
  refine wpAnyH_done (by kernel_rfl) ?_ _
  all_goals (
    clear q1 q2 q3 q4 q5 q6 q7 p2 p3 m1 m2 m3 m4 m5 m6 m7 e2 e3 c6 f6 h6
    go_wp2
    generalize (((((((((((((((w6.setCell ⟨ga, 0, none⟩ (.int .i64 state)).setCell ⟨ga, 1, none⟩ (.int .i64 tei)).setCell ⟨ga, 2, none⟩ (.int .i64 tries)).setCell ⟨ga, 3, none⟩ (.bool asked)).setCell ⟨ga, 4, none⟩ (.bool t2)).setCell ⟨ga, 5, none⟩ (.bool t3)).setCell ⟨ga, 6, none⟩ (.int .i64 n)).setCell ⟨ga, 7, none⟩ (.int .i64 fl.vs)).setCell ⟨ga, 8, none⟩ (.int .i64 fl.va)).setCell ⟨ga, 9, none⟩ (.int .i64 fl.vr)).setCell ⟨ga, 10, none⟩ (.bool fl.peer)).setCell ⟨ga, 11, none⟩ (.bool fl.own)).setCell ⟨ga, 12, none⟩ (.bool fl.refused)).setCell ⟨ga, 13, none⟩ (.int .i64 fl.q.sent)).setCell ⟨ga, 14, none⟩ (.int .i64 ((fl.q.l.length : Int) - fl.q.sent))) = w9 at *
    have c9 := h9.cell
    have g9 := view_left h9
    refine bodyPost_ret (v := .agg #[.int .i64 state, .int .i64 tei, .int .i64 tries, .bool asked, .bool t2, .bool t3, .int .i64 n, .int .i64 fl.vs, .int .i64 fl.va, .int .i64 fl.vr, .bool fl.peer, .bool fl.own, .bool fl.refused, .int .i64 fl.q.sent, .int .i64 ((fl.q.l.length : Int) - fl.q.sent)]) (by simp [results, Tryz.results40, go_sem, c9]) rfl ⟨rfl, fin _ g9⟩)
end Go.Proofs.YtnnahljdhdippaaGreatDoor
