/- The entity: send, call, anew, supervise, inquire, end, done, up. The entity: goOn, open. -/
import Derived.Test.YtoophfokbioaaaaDoorEntC
namespace Go.Proofs.YtoophfokbioaaaaDoor
open Go.RowKit

section
variable {w0 w : World} {R : HP} {e : Nat} {x : En}
theorem St.e_set_state (h : St w0 w (EnAt e x * R)) (v : Int) : St w0 (w.setCell ⟨e, 1, none⟩ (.int .i64 v)) (EnAt e (x.setState v) * R) := by
  obtain ⟨rm, fp, uv, ov, rl, hr, h1⟩ := h.e_open
  exact (h1.set 1 (.int .i64 v)).e_shut (x := x.setState v) rfl rfl hr rfl rfl rfl
theorem St.e_set_tries (h : St w0 w (EnAt e x * R)) (v : Int) : St w0 (w.setCell ⟨e, 3, none⟩ (.int .i64 v)) (EnAt e (x.setTries v) * R) := by
  obtain ⟨rm, fp, uv, ov, rl, hr, h1⟩ := h.e_open
  exact (h1.set 3 (.int .i64 v)).e_shut (x := x.setTries v) rfl rfl hr rfl rfl rfl
theorem St.e_set_tei (h : St w0 w (EnAt e x * R)) (v : Int) : St w0 (w.setCell ⟨e, 2, none⟩ (.int .i64 v)) (EnAt e (x.setTei v) * R) := by
  obtain ⟨rm, fp, uv, ov, rl, hr, h1⟩ := h.e_open
  exact (h1.set 2 (.int .i64 v)).e_shut (x := x.setTei v) rfl rfl hr rfl rfl rfl
theorem St.e_set_asked (h : St w0 w (EnAt e x * R)) (v : Bool) : St w0 (w.setCell ⟨e, 4, none⟩ (.bool v)) (EnAt e (x.setAsked v) * R) := by
  obtain ⟨rm, fp, uv, ov, rl, hr, h1⟩ := h.e_open
  exact (h1.set 4 (.bool v)).e_shut (x := x.setAsked v) rfl rfl hr rfl rfl rfl
end

theorem e_send (e : Nat) (x : En) (k : Int) (c p : Bool) (ok : x.fl.Ok) (hl : x.out.length ≤ 100000) (w0 w : World) (R : HP) (h : St w0 w (EnAt e x * R)) :
    Calls Tryd.prog 37 #[ptr e, .int .i64 k, .bool c, .bool p] w fun r w' => r = .returned (.tuple #[]) ∧ St w0 w' (EnAt e (x.send k c p) * R) := by
  go_enter Tryd.func37, Tryd.ntmps37
  go_wp2_with fail
  refine (e_sendD e x k c p 0 noStr ok hl w0 w R h).mono ?_
  rintro r w1 ⟨rfl, h1⟩
  go_wp2
  go_end0
  exact ⟨rfl, h1⟩

theorem e_call (e : Nat) (x : En) (ok : x.fl.Ok) (hl : x.out.length ≤ 99990) (w0 w : World) (R : HP) (h : St w0 w (EnAt e x * R)) :
    Calls Tryd.prog 22 #[ptr e] w fun r w' => r = .returned (.tuple #[]) ∧ St w0 w' (EnAt e x.call * R) := by
  have h2 := h.e_set_tries 0
  have l1 : ((x.setTries 0).send 4 true true).out.length = x.out.length + 1 := En.send_len (x.setTries 0) 4 true true
  have l2 := En.stop_len ((x.setTries 0).send 4 true true) 203
  obtain ⟨rm, fp, uv, ov, rl, hr, h1⟩ := (h).e_open
  have c := h1.cell
  have f := h1.free
  go_enter Tryd.func22, Tryd.ntmps22
  go_wp2_with fail
  refine (e_send e (x.setTries 0) 4 true true ok (show x.out.length ≤ 100000 by omega) w0 _ R h2).mono ?_
  rintro r w1 ⟨rfl, h3⟩
  clear c f h h1 h2
  go_wp2_with fail
  refine (e_stop e _ 203 (.inr rfl) (by omega) w0 w1 R h3).mono ?_
  rintro r w2 ⟨rfl, h4⟩
  go_wp2_with fail
  refine (e_start e _ 200 (.inl rfl) (by omega) w0 w2 R h4).mono ?_
  rintro r w3 ⟨rfl, h5⟩
  have h6 := h5.e_set_state 5
  obtain ⟨rm, fp, uv, ov, rl, hr, h1⟩ := (h5).e_open
  have c := h1.cell
  have f := h1.free
  go_wp2
  go_end0
  exact ⟨rfl, h6⟩

theorem e_anew (e : Nat) (x : En) (l : ByteArray) (ok : x.fl.Ok) (hl : x.out.length ≤ 99980) (w0 w : World) (R : HP) (h : St w0 w (EnAt e x * R)) :
    Calls Tryd.prog 33 #[ptr e, .string l] w fun r w' => r = .returned (.tuple #[]) ∧ St w0 w' (EnAt e (x.anew l) * R) := by
  have l1 := x.told_len 7 l
  go_enter Tryd.func33, Tryd.ntmps33
  go_wp2_with fail
  refine (e_told e x 7 l (by omega) w0 _ R h).mono ?_
  rintro r w1 ⟨rfl, h2⟩
  have h3 := h2.e_set_asked false
  obtain ⟨rm, fp, uv, ov, rl, hr, h1⟩ := (h2).e_open
  have c := h1.cell
  have f := h1.free
  go_wp2_with fail
  refine (e_call e ((x.told 7 l).setAsked false) ok (show (x.told 7 l).out.length ≤ 99990 by omega) w0 _ R h3).mono ?_
  rintro r w2 ⟨rfl, h4⟩
  clear c f h1 h2 h3
  go_wp2
  go_end0
  exact ⟨rfl, h4⟩

theorem e_superv (e : Nat) (x : En) (a b : Bool) (ok : x.fl.Ok) (hl : x.out.length ≤ 100000) (w0 w : World) (R : HP) (h : St w0 w (EnAt e x * R)) :
    Calls Tryd.prog 44 #[ptr e, .bool a, .bool b] w fun r w' => r = .returned (.tuple #[]) ∧ St w0 w' (EnAt e (x.superv a b) * R) := by
  have hv4 := view_f4
  obtain ⟨rm, fp, uv, ov, rl, hr, h1⟩ := h.e_open
  have c := h1.cell
  clear h
  cases ho : x.fl.own with
  | true =>
    have hv := f_view fp x.fl w0 w _ h1.f4 ok
    unfold Fl.view at hv
    rw [ho] at hv
    unfold En.superv
    rw [ho]
    go_enter Tryd.func44, Tryd.ntmps44
    go_wp2_with fail
    refine hv.mono ?_
    rintro r w1 ⟨rfl, h3⟩
    have h4 : St w0 w1 (EnAt e x * R) := h3.b4.e_shut rfl rfl hr rfl rfl rfl
    clear hv h3 h1 c
    go_wp2_with fail
    refine (e_send e x 2 a b ok hl w0 w1 R h4).mono ?_
    rintro r w2 ⟨rfl, h5⟩
    go_wp2
    go_end0
    exact ⟨rfl, h5⟩
  | false =>
    have hv := f_view fp x.fl w0 w _ h1.f4 ok
    unfold Fl.view at hv
    rw [ho] at hv
    unfold En.superv
    rw [ho]
    go_enter Tryd.func44, Tryd.ntmps44
    go_wp2_with fail
    refine hv.mono ?_
    rintro r w1 ⟨rfl, h3⟩
    have h4 : St w0 w1 (EnAt e x * R) := h3.b4.e_shut rfl rfl hr rfl rfl rfl
    clear hv h3 h1 c
    go_wp2_with fail
    refine (e_send e x 1 a b ok hl w0 w1 R h4).mono ?_
    rintro r w2 ⟨rfl, h5⟩
    go_wp2
    go_end0
    exact ⟨rfl, h5⟩

theorem e_inquire (e : Nat) (x : En) (ok : x.fl.Ok) (hl : x.out.length ≤ 99990) (w0 w : World) (R : HP) (h : St w0 w (EnAt e x * R)) :
    Calls Tryd.prog 32 #[ptr e] w fun r w' => r = .returned (.tuple #[]) ∧ St w0 w' (EnAt e x.inquire * R) := by
  have l1 := x.superv_len true true
  go_enter Tryd.func32, Tryd.ntmps32
  go_wp2_with fail
  refine (e_superv e x true true ok (by omega) w0 _ R h).mono ?_
  rintro r w1 ⟨rfl, h2⟩
  go_wp2_with fail
  refine (e_start e _ 200 (.inl rfl) (by omega) w0 w1 R h2).mono ?_
  rintro r w2 ⟨rfl, h3⟩
  go_wp2
  go_end0
  exact ⟨rfl, h3⟩

theorem e_end (e : Nat) (x : En) (ok : x.fl.Ok) (hl : x.out.length ≤ 99990) (w0 w : World) (R : HP) (h : St w0 w (EnAt e x * R)) :
    Calls Tryd.prog 23 #[ptr e] w fun r w' => r = .returned (.tuple #[]) ∧ St w0 w' (EnAt e x.end1 * R) := by
  have l1 : ((x.setFl x.fl.clear).stop 200).out.length ≤ x.out.length + 1 := En.stop_len (x.setFl x.fl.clear) 200
  obtain ⟨rm, fp, uv, ov, rl, hr, h1⟩ := h.e_open
  have c := h1.cell
  clear h
  go_enter Tryd.func23, Tryd.ntmps23
  go_wp2_with fail
  refine (f_clear fp x.fl w0 w _ h1.f4 ok).mono ?_
  rintro r w1 ⟨rfl, h2⟩
  have h3 : St w0 w1 (EnAt e (x.setFl x.fl.clear) * R) := h2.b4.e_shut (x := x.setFl x.fl.clear) rfl rfl hr rfl rfl rfl
  clear h1 h2 c
  go_wp2_with fail
  refine (e_stop e (x.setFl x.fl.clear) 200 (.inl rfl) (show x.out.length ≤ 100000 by omega) w0 w1 R h3).mono ?_
  rintro r w2 ⟨rfl, h4⟩
  go_wp2_with fail
  refine (e_stop e _ 203 (.inr rfl) (by omega) w0 w2 R h4).mono ?_
  rintro r w3 ⟨rfl, h5⟩
  have h6 := h5.e_set_state 4
  clear h3 h4
  obtain ⟨rm, fp, uv, ov, rl, hr, h1⟩ := (h5).e_open
  have c := h1.cell
  have f := h1.free
  go_wp2
  go_end0
  exact ⟨rfl, h6⟩

theorem e_done (e : Nat) (x : En) (w0 w : World) (R : HP) (h : St w0 w (EnAt e x * R)) :
    Calls Tryd.prog 20 #[ptr e] w fun r w' => ∃ v, r = .returned v ∧ St w0 w' (LAt TFx 11 Fx.cells v x.out * (EnAt e x.done * R)) := by
  obtain ⟨rm, fp, uv, ov, rl, hr, h1⟩ := h.e_open
  have c := h1.cell
  have f := h1.free
  have h2 := h1.set 8 (.slice none 0 0)
  obtain ⟨a1, c1, rfl, _, _⟩ := h1.f2.l_shape
  clear h
  go_enter Tryd.func20, Tryd.ntmps20
  go_wp2
  go_ret
  have h3 := (h2.f2.l_nil TFx 11 Fx.cells).eq (show _ = blk e (.cells ((x.cells rm fp uv (.slice a1 x.out.length c1)).setIfInBounds 8 (.slice none 0 0)) TEn (0, 0)) * (LAt TFx 11 Fx.cells (.slice none 0 0) [] * (MAt kInt vBool rm rl * (FAt TF TQ fp x.fl * (Row 9 1 uv x.units.length (strs x.units) * (LAt TFx 11 Fx.cells (.slice a1 x.out.length c1) x.out * R))))) by ac_rfl)
  exact ⟨_, rfl, (h3.e_shut (x := x.done) rfl rfl hr rfl rfl rfl).f2⟩
end Go.Proofs.YtoophfokbioaaaaDoor

namespace Go.Proofs.YtoophfokbioaaaaDoor
open Go.RowKit

def lenAt : Option Value → Nat
  | some (.slice _ n _) => n
  | _ => 0
theorem St.e_len {w0 w : World} {R : HP} {e : Nat} {x : En} (h : St w0 w (EnAt e x * R)) : lenAt (w.cell? ⟨e, 8, none⟩) = x.out.length := by
  obtain ⟨rm, fp, uv, ov, rl, hr, h1⟩ := h.e_open
  obtain ⟨a1, c1, rfl, _, _⟩ := h1.f2.l_shape
  rw [h1.cell 8]
  rfl
theorem En.stop_le (x : En) (t : Int) : x.out.length ≤ (x.stop t).out.length := by unfold En.stop; split <;> simp [En.tell, En.setT_out]
theorem En.take1_gt (x : En) : x.out.length < x.take1.out.length := by
  have h1 : ((x.setFl x.fl.take.1).sendD 0 true false x.fl.take.2.1 x.fl.take.2.2.1).out.length = x.out.length + 1 := En.sendD_len (x.setFl x.fl.take.1) 0 true false x.fl.take.2.1 x.fl.take.2.2.1
  unfold En.take1
  simp only []
  split
  · omega
  · rw [En.start_len]
    have := En.stop_le ((x.setFl x.fl.take.1).sendD 0 true false x.fl.take.2.1 x.fl.take.2.2.1) 203
    omega
theorem take_none {s : Fl} (h : s.take.2.2.2 = false) : s.take.1 = s := by
  unfold Fl.take at h ⊢
  split
  · rfl
  · rename_i h1; rw [if_neg h1] at h; cases h
/-- how far it went on -/
structure Far (x y : En) (j : Nat) : Prop where
  go : En.goOnK (128 - j) y = En.goOnK 128 x
  st : y.state = 7
  ok : y.fl.Ok
  sent : j ≤ y.fl.q.sent
  len : y.out.length ≤ x.out.length + 3 * j
theorem Far.lt {x y : En} {j : Nat} (h : Far x y j) : j ≤ 127 := by
  have := h.ok.n
  have := h.sent
  omega
theorem Far.next {x y : En} {j : Nat} (h : Far x y j) (ht : y.fl.take.2.2.2 = true) : Far x y.take1 (j + 1) := by
  have hj := h.lt
  have ok2 := h.ok.take
  have hs := take_sent ht
  have h1 := h.sent
  refine ⟨?_, y.take1_state.trans h.st, by rw [y.take1_fl]; exact ok2, by rw [y.take1_fl]; omega, ?_⟩
  · rw [← h.go, show 128 - j = (128 - (j + 1)) + 1 by omega, goOnK_step ht]
  · have := y.take1_len
    have := h.len
    omega
theorem Far.last {x y : En} {j : Nat} (h : Far x y j) (ht : y.fl.take.2.2.2 = false) : En.goOnK 128 x = y := by
  rw [← h.go, goOnK_stop ht]

set_option maxRecDepth 100000 in
set_option maxHeartbeats 1600000 in
theorem e_goOn (e : Nat) (x : En) (ok : x.fl.Ok) (hl : x.out.length ≤ 99000) (w0 w : World) (R : HP) (h : St w0 w (EnAt e x * R)) :
    Calls Tryd.prog 41 #[ptr e] w fun r w' => r = .returned (.tuple #[]) ∧ St w0 w' (EnAt e x.goOn * R) := by
  unfold En.goOn
  by_cases hs : x.state = 7
  · rw [if_pos hs]
    go_enter Tryd.func41, Tryd.ntmps41
    go_wp2
    go_loopw [] (fun wr => ∃ (j : Nat) (y : En), Hid (Far x y j) ∧ St w0 wr (EnAt e y * R)) (fun wr => 200000 - lenAt (wr.cell? ⟨e, 8, none⟩))
    case atStart => exact ⟨0, x, Lib.hid ⟨rfl, hs, ok, Nat.zero_le _, by omega⟩, h⟩
    case round =>
      clear h
      obtain ⟨j, y, hF, h2⟩ := hrel
      have hlen := h2.e_len
      have hy := hF.out.len
      have hj := hF.out.lt
      cases hb : y.fl.take.2.2.2 with
      | false =>
        obtain ⟨rm, fp, uv, ov, rl, hr, h1⟩ := h2.e_open
        have c := h1.cell
        have s7 : wr.cell? ⟨e, 1, none⟩ = some (.int .i64 7) := (c 1).trans (show some (Value.int .i64 y.state) = _ by rw [hF.out.st])
        have c7 : wr.cell? ⟨e, 7, none⟩ = some (ptr fp) := c 7
        clear c
        have hT := f_take fp y.fl w0 wr _ h1.f4 hF.out.ok
        rw [hb, take_none hb] at hT
        have hL := Lib.hid (hF.out.last hb)
        clear hb
        go_wp2_with fail
        refine hT.mono ?_
        rintro r w1 ⟨rfl, h3⟩
        have h4 : St w0 w1 (EnAt e y * R) := h3.b4.e_shut rfl rfl hr rfl rfl rfl
        clear h1 h3 c7 s7 hr
        go_wp2
        refine bodyPost_ret (v := .tuple #[]) (by simp [results, Tryd.results41, go_sem]) rfl ?_
        rw [hL.out]
        exact ⟨rfl, h4⟩
      | true =>
        have hN := Lib.hid (hF.out.next hb)
        have hg := Lib.hid y.take1_gt
        obtain ⟨rm, fp, uv, ov, rl, hr, h1⟩ := h2.e_open
        have c := h1.cell
        have s7 : wr.cell? ⟨e, 1, none⟩ = some (.int .i64 7) := (c 1).trans (show some (Value.int .i64 y.state) = _ by rw [hF.out.st])
        have c7 : wr.cell? ⟨e, 7, none⟩ = some (ptr fp) := c 7
        clear c
        have hT := f_take fp y.fl w0 wr _ h1.f4 hF.out.ok
        have okt := hF.out.ok.take
        rw [hb] at hT
        obtain ⟨z, hz⟩ : ∃ z, y.take1 = z := ⟨_, rfl⟩
        rw [hz] at hN hg
        unfold En.take1 at hz
        simp only [] at hz
        generalize y.fl.take = tk at hT hz okt
        obtain ⟨fl', ns, s, b⟩ := tk
        simp only [] at hT hz okt
        clear hb
        go_wp2_with fail
        refine hT.mono ?_
        rintro r w1 ⟨rfl, h3⟩
        have h4 : St w0 w1 (EnAt e (y.setFl fl') * R) := h3.b4.e_shut (x := y.setFl fl') rfl rfl hr rfl rfl rfl
        clear h1 h3 h2 c7 s7 hT hr
        go_wp2_with fail
        refine (e_sendD e (y.setFl fl') 0 true false ns s okt (show y.out.length ≤ 100000 by omega) w0 w1 R h4).mono ?_
        rintro r w2 ⟨rfl, h5⟩
        have hlY : ((y.setFl fl').sendD 0 true false ns s).out.length = y.out.length + 1 := En.sendD_len (y.setFl fl') 0 true false ns s
        have hR : ((y.setFl fl').sendD 0 true false ns s).runs 200 = y.t2 := rfl
        generalize (y.setFl fl').sendD 0 true false ns s = Y at *
        obtain ⟨rm, fp, uv, ov, rl, hr, h6⟩ := h5.e_open
        have c := h6.cell
        have hb := h6.f3.bm 200 (kok _ (by omega) (by omega))
        rw [hr 200, hR] at hb
        clear h6 hr h4
        cases h2 : y.t2 with
        | true =>
          rw [h2] at hb hz
          rw [if_pos rfl] at hz
          subst hz
          go_wp2
          go_roundw
          case rel => exact ⟨j + 1, _, hN, h5⟩
          case measure => rw [h5.e_len, hlen]; have := hg.out; omega
        | false =>
          rw [h2] at hb hz
          rw [if_neg (by simp)] at hz
          have lS := En.stop_len Y 203
          go_wp2_with fail
          refine (e_stop e Y 203 (.inr rfl) (by omega) w0 w2 R h5).mono ?_
          rintro r w3 ⟨rfl, h7⟩
          clear c hb h5
          go_wp2_with fail
          refine (e_start e (Y.stop 203) 200 (.inl rfl) (by omega) w0 w3 R h7).mono ?_
          rintro r w4 ⟨rfl, h8⟩
          clear h7
          rw [hz] at h8
          clear hz
          go_wp2
          go_roundw
          case rel => exact ⟨j + 1, _, hN, h8⟩
          case measure => rw [h8.e_len, hlen]; have := hg.out; omega
  · rw [if_neg hs]
    have b : (x.state == 7) = false := by simpa using hs
    go_enter Tryd.func41, Tryd.ntmps41
    go_wp2
    go_loopw [] (fun wr => St w0 wr (EnAt e x * R)) (fun _ => 0)
    case atStart => exact h
    case round =>
      clear h
      obtain ⟨rm, fp, uv, ov, rl, hr, h1⟩ := (hrel).e_open
      have c := h1.cell
      have f := h1.free
      go_wp2
      go_end0
      exact ⟨rfl, hrel⟩
end Go.Proofs.YtoophfokbioaaaaDoor
