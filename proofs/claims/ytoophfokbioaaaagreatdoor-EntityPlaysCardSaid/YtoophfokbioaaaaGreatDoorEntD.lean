/- The entity: send, call, anew, supervise, inquire, end, done, up. -/
import Derived.Test.YtoophfokbioaaaaGreatDoorEntC
namespace Go.Proofs.YtoophfokbioaaaaGreatDoor
open Go.RowKit

section
variable {w0 w : World} {R : HP} {e : Nat} {x : En}
theorem St.e_set_state (h : St w0 w (EnAt e x * R)) (v : Int) : St w0 (w.setCell ⟨e, 1, none⟩ (.int .i64 v)) (EnAt e (x.setState v) * R) := by
  obtain ⟨rm, fp, uv, ov, rl, hr, h1⟩ := h.e_open
  exact (h1.set 1 (.int .i64 v)).e_shut (x := x.setState v) rfl rfl hr rfl rfl rfl
theorem St.e_set_tries (h : St w0 w (EnAt e x * R)) (v : Int) : St w0 (w.setCell ⟨e, 3, none⟩ (.int .i64 v)) (EnAt e (x.setTries v) * R) := by
  obtain ⟨rm, fp, uv, ov, rl, hr, h1⟩ := h.e_open
  exact (h1.set 3 (.int .i64 v)).e_shut (x := x.setTries v) rfl rfl hr rfl rfl rfl
theorem St.e_set_tei (h : St w0 w (EnAt e x * R)) (v : Int) : St w0 (w.setCell ⟨e, 2, none⟩ (.int .i64 v)) (EnAt e (x.setTei v) * R) := by
  obtain ⟨rm, fp, uv, ov, rl, hr, h1⟩ := h.e_open
  exact (h1.set 2 (.int .i64 v)).e_shut (x := x.setTei v) rfl rfl hr rfl rfl rfl
theorem St.e_set_asked (h : St w0 w (EnAt e x * R)) (v : Bool) : St w0 (w.setCell ⟨e, 4, none⟩ (.bool v)) (EnAt e (x.setAsked v) * R) := by
  obtain ⟨rm, fp, uv, ov, rl, hr, h1⟩ := h.e_open
  exact (h1.set 4 (.bool v)).e_shut (x := x.setAsked v) rfl rfl hr rfl rfl rfl
end

theorem e_send (e : Nat) (x : En) (k : Int) (c p : Bool) (ok : x.fl.Ok) (hl : x.out.length ≤ 100000) (w0 w : World) (R : HP) (h : St w0 w (EnAt e x * R)) :
    Calls Tryz.prog 84 #[ptr e, .int .i64 k, .bool c, .bool p] w fun r w' => r = .returned (.tuple #[]) ∧ St w0 w' (EnAt e (x.send k c p) * R) := by
  go_enter Tryz.func84, Tryz.ntmps84
  go_wp2_with fail
  refine (e_sendD e x k c p 0 noStr ok hl w0 w R h).mono ?_
  rintro r w1 ⟨rfl, h1⟩
  go_wp2
  go_end0
  exact ⟨rfl, h1⟩

theorem e_call (e : Nat) (x : En) (ok : x.fl.Ok) (hl : x.out.length ≤ 99990) (w0 w : World) (R : HP) (h : St w0 w (EnAt e x * R)) :
    Calls Tryz.prog 47 #[ptr e] w fun r w' => r = .returned (.tuple #[]) ∧ St w0 w' (EnAt e x.call * R) := by
  have h2 := h.e_set_tries 0
  have l1 : ((x.setTries 0).send 4 true true).out.length = x.out.length + 1 := En.send_len (x.setTries 0) 4 true true
  have l2 := En.stop_len ((x.setTries 0).send 4 true true) 203
  obtain ⟨rm, fp, uv, ov, rl, hr, h1⟩ := (h).e_open
  have c := h1.cell
  have f := h1.free
  go_enter Tryz.func47, Tryz.ntmps47
  go_wp2_with fail
  refine (e_send e (x.setTries 0) 4 true true ok (show x.out.length ≤ 100000 by omega) w0 _ R h2).mono ?_
  rintro r w1 ⟨rfl, h3⟩
  clear c f h h1 h2
  go_wp2_with fail
  refine (e_stop e _ 203 (.inr rfl) (by omega) w0 w1 R h3).mono ?_
  rintro r w2 ⟨rfl, h4⟩
  go_wp2_with fail
  refine (e_start e _ 200 (.inl rfl) (by omega) w0 w2 R h4).mono ?_
  rintro r w3 ⟨rfl, h5⟩
  have h6 := h5.e_set_state 5
  obtain ⟨rm, fp, uv, ov, rl, hr, h1⟩ := (h5).e_open
  have c := h1.cell
  have f := h1.free
  go_wp2
  go_end0
  exact ⟨rfl, h6⟩

theorem e_anew (e : Nat) (x : En) (l : ByteArray) (ok : x.fl.Ok) (hl : x.out.length ≤ 99980) (w0 w : World) (R : HP) (h : St w0 w (EnAt e x * R)) :
    Calls Tryz.prog 50 #[ptr e, .string l] w fun r w' => r = .returned (.tuple #[]) ∧ St w0 w' (EnAt e (x.anew l) * R) := by
  have l1 := x.told_len 7 l
  go_enter Tryz.func50, Tryz.ntmps50
  go_wp2_with fail
  refine (e_told e x 7 l (by omega) w0 _ R h).mono ?_
  rintro r w1 ⟨rfl, h2⟩
  have h3 := h2.e_set_asked false
  obtain ⟨rm, fp, uv, ov, rl, hr, h1⟩ := (h2).e_open
  have c := h1.cell
  have f := h1.free
  go_wp2_with fail
  refine (e_call e ((x.told 7 l).setAsked false) ok (show (x.told 7 l).out.length ≤ 99990 by omega) w0 _ R h3).mono ?_
  rintro r w2 ⟨rfl, h4⟩
  clear c f h1 h2 h3
  go_wp2
  go_end0
  exact ⟨rfl, h4⟩

theorem e_superv (e : Nat) (x : En) (a b : Bool) (ok : x.fl.Ok) (hl : x.out.length ≤ 100000) (w0 w : World) (R : HP) (h : St w0 w (EnAt e x * R)) :
    Calls Tryz.prog 91 #[ptr e, .bool a, .bool b] w fun r w' => r = .returned (.tuple #[]) ∧ St w0 w' (EnAt e (x.superv a b) * R) := by
  have hv4 := view_f4
  obtain ⟨rm, fp, uv, ov, rl, hr, h1⟩ := h.e_open
  have c := h1.cell
  clear h
  cases ho : x.fl.own with
  | true =>
    have hv := f_view fp x.fl w0 w _ h1.f4 ok
    unfold Fl.view at hv
    rw [ho] at hv
    unfold En.superv
    rw [ho]
    go_enter Tryz.func91, Tryz.ntmps91
    go_wp2_with fail
    refine hv.mono ?_
    rintro r w1 ⟨rfl, h3⟩
    have h4 : St w0 w1 (EnAt e x * R) := h3.b4.e_shut rfl rfl hr rfl rfl rfl
    clear hv h3 h1 c
    go_wp2_with fail
    refine (e_send e x 2 a b ok hl w0 w1 R h4).mono ?_
    rintro r w2 ⟨rfl, h5⟩
    go_wp2
    go_end0
    exact ⟨rfl, h5⟩
  | false =>
    have hv := f_view fp x.fl w0 w _ h1.f4 ok
    unfold Fl.view at hv
    rw [ho] at hv
    unfold En.superv
    rw [ho]
    go_enter Tryz.func91, Tryz.ntmps91
    go_wp2_with fail
    refine hv.mono ?_
    rintro r w1 ⟨rfl, h3⟩
    have h4 : St w0 w1 (EnAt e x * R) := h3.b4.e_shut rfl rfl hr rfl rfl rfl
    clear hv h3 h1 c
    go_wp2_with fail
    refine (e_send e x 1 a b ok hl w0 w1 R h4).mono ?_
    rintro r w2 ⟨rfl, h5⟩
    go_wp2
    go_end0
    exact ⟨rfl, h5⟩

theorem e_inquire (e : Nat) (x : En) (ok : x.fl.Ok) (hl : x.out.length ≤ 99990) (w0 w : World) (R : HP) (h : St w0 w (EnAt e x * R)) :
    Calls Tryz.prog 49 #[ptr e] w fun r w' => r = .returned (.tuple #[]) ∧ St w0 w' (EnAt e x.inquire * R) := by
  have l1 := x.superv_len true true
  go_enter Tryz.func49, Tryz.ntmps49
  go_wp2_with fail
  refine (e_superv e x true true ok (by omega) w0 _ R h).mono ?_
  rintro r w1 ⟨rfl, h2⟩
  go_wp2_with fail
  refine (e_start e _ 200 (.inl rfl) (by omega) w0 w1 R h2).mono ?_
  rintro r w2 ⟨rfl, h3⟩
  go_wp2
  go_end0
  exact ⟨rfl, h3⟩

theorem e_end (e : Nat) (x : En) (ok : x.fl.Ok) (hl : x.out.length ≤ 99990) (w0 w : World) (R : HP) (h : St w0 w (EnAt e x * R)) :
    Calls Tryz.prog 53 #[ptr e] w fun r w' => r = .returned (.tuple #[]) ∧ St w0 w' (EnAt e x.end1 * R) := by
  have l1 : ((x.setFl x.fl.clear).stop 200).out.length ≤ x.out.length + 1 := En.stop_len (x.setFl x.fl.clear) 200
  obtain ⟨rm, fp, uv, ov, rl, hr, h1⟩ := h.e_open
  have c := h1.cell
  clear h
  go_enter Tryz.func53, Tryz.ntmps53
  go_wp2_with fail
  refine (f_clear fp x.fl w0 w _ h1.f4 ok).mono ?_
  rintro r w1 ⟨rfl, h2⟩
  have h3 : St w0 w1 (EnAt e (x.setFl x.fl.clear) * R) := h2.b4.e_shut (x := x.setFl x.fl.clear) rfl rfl hr rfl rfl rfl
  clear h1 h2 c
  go_wp2_with fail
  refine (e_stop e (x.setFl x.fl.clear) 200 (.inl rfl) (show x.out.length ≤ 100000 by omega) w0 w1 R h3).mono ?_
  rintro r w2 ⟨rfl, h4⟩
  go_wp2_with fail
  refine (e_stop e _ 203 (.inr rfl) (by omega) w0 w2 R h4).mono ?_
  rintro r w3 ⟨rfl, h5⟩
  have h6 := h5.e_set_state 4
  clear h3 h4
  obtain ⟨rm, fp, uv, ov, rl, hr, h1⟩ := (h5).e_open
  have c := h1.cell
  have f := h1.free
  go_wp2
  go_end0
  exact ⟨rfl, h6⟩

theorem e_done (e : Nat) (x : En) (w0 w : World) (R : HP) (h : St w0 w (EnAt e x * R)) :
    Calls Tryz.prog 41 #[ptr e] w fun r w' => ∃ v, r = .returned v ∧ St w0 w' (LAt TFx 11 Fx.cells v x.out * (EnAt e x.done * R)) := by
  obtain ⟨rm, fp, uv, ov, rl, hr, h1⟩ := h.e_open
  have c := h1.cell
  have f := h1.free
  have h2 := h1.set 8 (.slice none 0 0)
  obtain ⟨a1, c1, rfl, _, _⟩ := h1.f2.l_shape
  clear h
  go_enter Tryz.func41, Tryz.ntmps41
  go_wp2
  go_ret
  have h3 := (h2.f2.l_nil TFx 11 Fx.cells).eq (show _ = blk e (.cells ((x.cells rm fp uv (.slice a1 x.out.length c1)).setIfInBounds 8 (.slice none 0 0)) TEn (0, 0)) * (LAt TFx 11 Fx.cells (.slice none 0 0) [] * (MAt kInt vBool rm rl * (FAt TF TQ fp x.fl * (Row 9 1 uv x.units.length (strs x.units) * (LAt TFx 11 Fx.cells (.slice a1 x.out.length c1) x.out * R))))) by ac_rfl)
  exact ⟨_, rfl, (h3.e_shut (x := x.done) rfl rfl hr rfl rfl rfl).f2⟩
end Go.Proofs.YtoophfokbioaaaaGreatDoor
