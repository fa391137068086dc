/- The entity: what its steps leave as it was, and how many effects they tell: plain laws. The entity: tell, told, sendData, send, start, stop. The entity: told, sendData, send, start, stop; call, anew, supervise, inquire, end. -/
import Derived.Test.YtoophfokbioaaaaDoorEnt
namespace Go.Proofs.YtoophfokbioaaaaDoor
open Go.RowKit

section
variable (x : En)
theorem En.setT_out (t : Int) (b : Bool) : (x.setT t b).out = x.out := by unfold En.setT; split <;> rfl
theorem En.setT_fl (t : Int) (b : Bool) : (x.setT t b).fl = x.fl := by unfold En.setT; split <;> rfl
theorem En.setT_state (t : Int) (b : Bool) : (x.setT t b).state = x.state := by unfold En.setT; split <;> rfl
theorem En.setT_units (t : Int) (b : Bool) : (x.setT t b).units = x.units := by unfold En.setT; split <;> rfl
theorem En.setT_most (t : Int) (b : Bool) : (x.setT t b).most = x.most := by unfold En.setT; split <;> rfl
theorem En.setT_tries (t : Int) (b : Bool) : (x.setT t b).tries = x.tries := by unfold En.setT; split <;> rfl
theorem En.setT_tei (t : Int) (b : Bool) : (x.setT t b).tei = x.tei := by unfold En.setT; split <;> rfl
theorem En.setT_asked (t : Int) (b : Bool) : (x.setT t b).asked = x.asked := by unfold En.setT; split <;> rfl
theorem En.setT_cells (t : Int) (b : Bool) (rm fp : Nat) (uv ov : Value) : (x.setT t b).cells rm fp uv ov = x.cells rm fp uv ov := by unfold En.setT; split <;> rfl
theorem En.setT_runs {t : Int} (ht : t = 200 ∨ t = 203) (b : Bool) (u : Int) : (x.setT t b).runs u = if u = t then b else x.runs u := by
  unfold En.setT En.runs
  rcases ht with rfl | rfl
  · rw [if_pos rfl]
    by_cases h : u = 200
    · rw [if_pos h, if_pos h]
    · rw [if_neg h, if_neg h, if_neg h]
  · rw [if_neg (show ¬ (203 : Int) = 200 by decide)]
    by_cases h : u = 200
    · subst h; rw [if_pos rfl, if_neg (by decide), if_pos rfl]
    · rw [if_neg h, if_neg h]
      by_cases h2 : u = 203
      · rw [if_pos h2, if_pos h2]
      · rw [if_neg h2, if_neg h2, if_neg h2]
theorem En.tell_out (f : Fx) : (x.tell f).out = x.out ++ [f] := rfl
theorem En.sendD_len (k : Int) (c p : Bool) (n : Int) (i : ByteArray) : (x.sendD k c p n i).out.length = x.out.length + 1 := by simp [En.sendD, En.tell]
theorem En.send_len (k : Int) (c p : Bool) : (x.send k c p).out.length = x.out.length + 1 := x.sendD_len k c p 0 noStr
theorem En.told_len (k : Int) (d : ByteArray) : (x.told k d).out.length = x.out.length + 1 := by simp [En.told, En.tell]
theorem En.start_len (t : Int) : (x.start t).out.length = x.out.length + 1 := by simp [En.start, En.tell, setT_out]
theorem En.stop_len (t : Int) : (x.stop t).out.length ≤ x.out.length + 1 := by unfold En.stop; split <;> simp [En.tell, setT_out]
theorem En.superv_len (c p : Bool) : (x.superv c p).out.length = x.out.length + 1 := x.send_len _ c p
theorem En.start_fl (t : Int) : (x.start t).fl = x.fl := x.setT_fl t true
theorem En.stop_fl (t : Int) : (x.stop t).fl = x.fl := by unfold En.stop; split; exact x.setT_fl t false; rfl
theorem En.start_state (t : Int) : (x.start t).state = x.state := x.setT_state t true
theorem En.stop_state (t : Int) : (x.stop t).state = x.state := by unfold En.stop; split; exact x.setT_state t false; rfl
theorem En.start_units (t : Int) : (x.start t).units = x.units := x.setT_units t true
theorem En.stop_units (t : Int) : (x.stop t).units = x.units := by unfold En.stop; split; exact x.setT_units t false; rfl
theorem En.start_most (t : Int) : (x.start t).most = x.most := x.setT_most t true
theorem En.stop_most (t : Int) : (x.stop t).most = x.most := by unfold En.stop; split; exact x.setT_most t false; rfl
theorem En.start_tries (t : Int) : (x.start t).tries = x.tries := x.setT_tries t true
theorem En.stop_tries (t : Int) : (x.stop t).tries = x.tries := by unfold En.stop; split; exact x.setT_tries t false; rfl
theorem En.call_len : x.call.out.length ≤ x.out.length + 3 := by
  have h1 := En.stop_len ((x.setTries 0).send 4 true true) 203
  have h2 : ((x.setTries 0).send 4 true true).out.length = x.out.length + 1 := En.send_len (x.setTries 0) 4 true true
  have h3 := En.start_len (((x.setTries 0).send 4 true true).stop 203) 200
  show ((((x.setTries 0).send 4 true true).stop 203).start 200).out.length ≤ _
  omega
theorem En.call_fl : x.call.fl = x.fl := (En.start_fl _ _).trans (En.stop_fl _ _)
theorem En.anew_len (l : ByteArray) : (x.anew l).out.length ≤ x.out.length + 4 := by
  have h1 := En.call_len ((x.told 7 l).setAsked false)
  have h2 : ((x.told 7 l).setAsked false).out.length = x.out.length + 1 := x.told_len 7 l
  unfold En.anew
  omega
theorem En.take1_fl : x.take1.fl = x.fl.take.1 := by
  unfold En.take1
  simp only []
  split
  · rfl
  · exact (En.start_fl _ _).trans (En.stop_fl _ _)
theorem En.take1_state : x.take1.state = x.state := by
  unfold En.take1
  simp only []
  split
  · rfl
  · exact (En.start_state _ _).trans (En.stop_state _ _)
theorem En.take1_len : x.take1.out.length ≤ x.out.length + 3 := by
  have h1 : ((x.setFl x.fl.take.1).sendD 0 true false x.fl.take.2.1 x.fl.take.2.2.1).out.length = x.out.length + 1 := En.sendD_len (x.setFl x.fl.take.1) 0 true false x.fl.take.2.1 x.fl.take.2.2.1
  unfold En.take1
  simp only []
  split
  · omega
  · rw [En.start_len]
    have := En.stop_len ((x.setFl x.fl.take.1).sendD 0 true false x.fl.take.2.1 x.fl.take.2.2.1) 203
    omega
end
theorem goOnK_len : ∀ (n : Nat) (x : En), (En.goOnK n x).out.length ≤ x.out.length + 3 * n
  | 0, _ => Nat.le_refl _
  | n + 1, x => by
    unfold En.goOnK
    split
    · have h1 := goOnK_len n x.take1
      have h2 := x.take1_len
      omega
    · omega
theorem goOn_len (x : En) : x.goOn.out.length ≤ x.out.length + 384 := by
  unfold En.goOn
  split
  · exact goOnK_len 128 x
  · omega
theorem open1_len (x : En) : x.open1.out.length ≤ x.out.length + 386 := by
  unfold En.open1
  have h1 := goOn_len ((((x.setFl x.fl.reset).stop 200).start 203).setState 7)
  have h2 : ((x.setFl x.fl.reset).stop 200).out.length ≤ x.out.length + 1 := En.stop_len (x.setFl x.fl.reset) 200
  have h3 : ((((x.setFl x.fl.reset).stop 200).start 203).setState 7).out.length = ((x.setFl x.fl.reset).stop 200).out.length + 1 := En.start_len ((x.setFl x.fl.reset).stop 200) 203
  omega
theorem end1_len (x : En) : x.end1.out.length ≤ x.out.length + 2 := by
  have h2 : ((x.setFl x.fl.clear).stop 200).out.length ≤ x.out.length + 1 := En.stop_len (x.setFl x.fl.clear) 200
  have h3 : x.end1.out.length ≤ ((x.setFl x.fl.clear).stop 200).out.length + 1 := En.stop_len ((x.setFl x.fl.clear).stop 200) 203
  omega
theorem inquire_len (x : En) : x.inquire.out.length = x.out.length + 2 := by
  unfold En.inquire
  rw [En.start_len, En.superv_len]
/-- a payload that is taken counts as sent -/
theorem take_sent {s : Fl} (h : s.take.2.2.2 = true) : s.take.1.q.sent = s.q.sent + 1 := by
  unfold Fl.take at h ⊢
  split
  · rename_i h1; rw [if_pos h1] at h; cases h
  · rename_i h1
    have : ¬ s.q.l.length ≤ s.q.sent := fun h2 => h1 (.inr (.inl h2))
    simp only [Q.take]
    rw [if_pos (by omega)]
theorem goOnK_stop {n : Nat} {x : En} (h : x.fl.take.2.2.2 = false) : En.goOnK n x = x := by
  cases n with
  | zero => rfl
  | succ n => unfold En.goOnK; rw [if_neg (by rw [h]; simp)]
theorem goOnK_step {n : Nat} {x : En} (h : x.fl.take.2.2.2 = true) : En.goOnK (n + 1) x = En.goOnK n x.take1 := by
  conv => lhs; unfold En.goOnK
  rw [if_pos h]
end Go.Proofs.YtoophfokbioaaaaDoor

namespace Go.Proofs.YtoophfokbioaaaaDoor
open Go.RowKit


set_option maxRecDepth 100000 in
theorem e_tell (e : Nat) (x : En) (y : Fx) (hl : x.out.length ≤ 100000) (w0 w : World) (R : HP) (h : St w0 w (EnAt e x * R)) :
    Calls Tryd.prog 47 #[ptr e, .agg y.cells.toArray] w fun r w' => r = .returned (.tuple #[]) ∧ St w0 w' (EnAt e (x.tell y) * R) := by
  obtain ⟨rm, fp, uv, ov, rl, hr, h1⟩ := h.e_open
  have h2 := h1.alloc (.cells y.cells.toArray TFx)
  clear h h1
  go_enter Tryd.func47, Tryd.ntmps47
  go_upto_region 1 with fail
  generalize w.alloc _ = wa at *
  generalize w.heap.size = ga at *
  have d := h2.cell
  have lte := h2.f2.lt
  have ltg := h2.lt
  have c := h2.f2.cell
  have hx := ((h2.alloc (.cells y.cells.toArray TFx)).l_mk tyFx.len [y] 1 rfl (by simp) (by decide)).f4
  have hge : (x.out.length + [y].length) * 104 ≤ 140737488355328 := by simp; omega
  have HX := Lib.hid hx
  clear hx
  go_region_law (refine step_append_l rfl (.tmp 8) (.tmp 10) rfl tyFx HX.out.drew (by simp) rfl rfl hge ?_; intro g off cap w8 h8; have c8 := h8.f3.cell; have f8 := h8.f3.free)
  all_goals (
    go_end0
    exact ⟨rfl, ((h8.f3.set 8 (.slice (some ⟨g, off, none⟩) (x.out.length + 1) cap)).f3.drop).e_shut (x := x.tell y) (rm := rm) (fp := fp) (uv := uv) rfl rfl hr rfl rfl rfl⟩)

theorem k_numb (k : Int) (w : World) : Calls Tryd.prog 48 #[.int .i64 k] w fun r w' => r = .returned (.bool (numb k)) ∧ w' = w := by
  unfold numb
  by_cases h0 : 0 ≤ k
  · have b0 : decide (0 ≤ k) = true := by simpa using h0
    have b1 : decide (k ≥ 0) = true := by simpa using h0
    rw [b0]
    go_enter Tryd.func48, Tryd.ntmps48
    go_wp2
    go_ret
    exact ⟨rfl, rfl⟩
  · have b0 : decide (0 ≤ k) = false := by simpa using h0
    have b1 : decide (k ≥ 0) = false := by simpa using h0
    rw [b0]
    go_enter Tryd.func48, Tryd.ntmps48
    go_wp2
    go_ret
    exact ⟨rfl, rfl⟩
end Go.Proofs.YtoophfokbioaaaaDoor

namespace Go.Proofs.YtoophfokbioaaaaDoor
open Go.RowKit

theorem view_f2 (a b c g h : Int) (x y z : Bool) (w : World) : (Instr.field 34 (.agg #[.int .i64 a, .int .i64 b, .int .i64 c, .bool x, .bool y, .bool z, .int .i64 g, .int .i64 h]) 2).run Tryd.prog w = .ok (.int .i64 c) w := by kernel_rfl
theorem view_f4 (a b c g h : Int) (x y z : Bool) (w : World) : (Instr.field 34 (.agg #[.int .i64 a, .int .i64 b, .int .i64 c, .bool x, .bool y, .bool z, .int .i64 g, .int .i64 h]) 4).run Tryd.prog w = .ok (.bool y) w := by kernel_rfl

theorem e_told (e : Nat) (x : En) (k : Int) (d : ByteArray) (hl : x.out.length ≤ 100000) (w0 w : World) (R : HP) (h : St w0 w (EnAt e x * R)) :
    Calls Tryd.prog 24 #[ptr e, .int .i64 k, .string d] w fun r w' => r = .returned (.tuple #[]) ∧ St w0 w' (EnAt e (x.told k d) * R) := by
  go_enter Tryd.func24, Tryd.ntmps24
  go_wp2_with fail
  refine (e_tell e x (.of k d) hl w0 w R h).mono ?_
  rintro r w1 ⟨rfl, h1⟩
  go_wp2
  go_end0
  exact ⟨rfl, h1⟩

theorem e_start (e : Nat) (x : En) (t : Int) (ht : t = 200 ∨ t = 203) (hl : x.out.length ≤ 100000) (w0 w : World) (R : HP) (h : St w0 w (EnAt e x * R)) :
    Calls Tryd.prog 39 #[ptr e, .int .i64 t] w fun r w' => r = .returned (.tuple #[]) ∧ St w0 w' (EnAt e (x.start t) * R) := by
  have hk : kInt.ok t := kok _ (by omega) (by omega)
  obtain ⟨rm, fp, uv, ov, rl, hr, h1⟩ := h.e_open
  have c := h1.cell
  have f := h1.free
  go_enter Tryd.func39, Tryd.ntmps39
  go_wp2_with (at_mapUpdate; refine wp_mput rfl (.tmp 7) (.tmp 8) (.const (Value.bool true)) 60 rfl tyBM h1.f3 rfl t rfl hk true rfl ?_; intro w5 h4)
  have h5 : St w0 w5 (EnAt e (x.setT t true) * R) := h4.b3.e_shut (x.setT_cells t true rm fp uv ov).symm (x.setT_out t true).symm (fun u => by rw [bOf_put, x.setT_runs ht, hr]) (x.setT_fl t true).symm (by rw [x.setT_units]) (by rw [x.setT_units])
  clear h4 h1 h c f
  go_wp2_with fail
  refine (e_tell e (x.setT t true) (.tim 9 t) (by rw [En.setT_out]; exact hl) w0 w5 R h5).mono ?_
  rintro r w6 ⟨rfl, h6⟩
  go_wp2
  go_end0
  exact ⟨rfl, h6⟩

theorem e_stop (e : Nat) (x : En) (t : Int) (ht : t = 200 ∨ t = 203) (hl : x.out.length ≤ 100000) (w0 w : World) (R : HP) (h : St w0 w (EnAt e x * R)) :
    Calls Tryd.prog 38 #[ptr e, .int .i64 t] w fun r w' => r = .returned (.tuple #[]) ∧ St w0 w' (EnAt e (x.stop t) * R) := by
  have hk : kInt.ok t := kok _ (by omega) (by omega)
  obtain ⟨rm, fp, uv, ov, rl, hr, h1⟩ := h.e_open
  have c := h1.cell
  have f := h1.free
  have hb := h1.f3.bm t hk
  rw [hr t] at hb
  unfold En.stop
  cases hx : x.runs t with
  | false =>
    rw [hx] at hb
    rw [if_neg (by simp)]
    go_enter Tryd.func38, Tryd.ntmps38
    go_wp2
    go_end0
    exact ⟨rfl, h⟩
  | true =>
    rw [hx] at hb
    rw [if_pos rfl]
    go_enter Tryd.func38, Tryd.ntmps38
    go_wp2_with (at_mapUpdate; refine wp_mput rfl (.tmp 13) (.tmp 14) (.const (Value.bool false)) 60 rfl tyBM h1.f3 rfl t rfl hk false rfl ?_; intro w5 h4)
    have h5 : St w0 w5 (EnAt e (x.setT t false) * R) := h4.b3.e_shut (x.setT_cells t false rm fp uv ov).symm (x.setT_out t false).symm (fun u => by rw [bOf_put, x.setT_runs ht, hr]) (x.setT_fl t false).symm (by rw [x.setT_units]) (by rw [x.setT_units])
    clear h4 h1 h c f hb
    go_wp2_with fail
    refine (e_tell e (x.setT t false) (.tim 10 t) (by rw [En.setT_out]; exact hl) w0 w5 R h5).mono ?_
    rintro r w6 ⟨rfl, h6⟩
    go_wp2
    go_end0
    exact ⟨rfl, h6⟩

theorem e_sendD (e : Nat) (x : En) (k : Int) (c p : Bool) (ns : Int) (i : ByteArray) (ok : x.fl.Ok) (hl : x.out.length ≤ 100000) (w0 w : World) (R : HP) (h : St w0 w (EnAt e x * R)) :
    Calls Tryd.prog 42 #[ptr e, .int .i64 k, .bool c, .bool p, .int .i64 ns, .string i] w fun r w' => r = .returned (.tuple #[]) ∧ St w0 w' (EnAt e (x.sendD k c p ns i) * R) := by
  obtain ⟨rm, fp, uv, ov, rl, hr, h1⟩ := h.e_open
  have c0 := h1.cell
  have h2 := h1.alloc (.cells #[.int .i64 0, .int .i64 x.tei, .bool c, .int .i64 k, .bool p, .int .i64 ns, .int .i64 0, .string i] 45)
  have hv2 := view_f2
  unfold En.sendD
  have hk := k_numb k
  clear h h1
  cases hn : numb k with
  | false =>
    rw [hn] at hk
    rw [if_neg (by simp)]
    go_enter Tryd.func42, Tryd.ntmps42
    go_upto_region 1 with fail
    generalize w.alloc _ = wa at *
    generalize w.heap.size = ga at *
    have d := h2.cell
    have ce := h2.f2.cell
    clear c0
    go_wp2_with fail
    refine (hk wa).mono ?_
    rintro r w1 ⟨rfl, rfl⟩
    have h3 : St w0 w1 (EnAt e x * (blk ga _ * R)) := (h2.eq (show _ = blk e _ * (_ * (_ * (_ * (_ * (blk ga _ * R))))) by ac_rfl)).e_shut rfl rfl hr rfl rfl rfl
    go_wp2_with fail
    refine (e_tell e x ⟨0, ⟨0, x.tei, c, k, p, ns, 0, i⟩, noStr, 0⟩ hl w0 w1 _ h3).mono ?_
    rintro r w2 ⟨rfl, h4⟩
    go_wp2
    go_end0
    exact ⟨rfl, h4.f2.drop⟩
  | true =>
    rw [hn] at hk
    rw [if_pos rfl]
    go_enter Tryd.func42, Tryd.ntmps42
    go_upto_region 1 with fail
    generalize w.alloc _ = wa at *
    generalize w.heap.size = ga at *
    have d := h2.cell
    have ce := h2.f2.cell
    clear c0
    go_wp2_with fail
    refine (hk wa).mono ?_
    rintro r w1 ⟨rfl, rfl⟩
    have hv := f_view fp x.fl w0 w1 _ h2.f5 ok
    unfold Fl.view at hv
    go_wp2_with fail
    refine hv.mono ?_
    rintro r w2 ⟨rfl, h3⟩
    have h4 := h3.b5
    have d4 := h4.cell
    have f4 := h4.free
    have h5 := h4.set 6 (.int .i64 x.fl.vr)
    clear h2 h3 h4 d ce hv
    go_upto_region 3 with fail
    generalize w2.setCell _ _ = w3 at *
    have d5 := h5.cell
    have h6 : St w0 w3 (EnAt e x * (blk ga (.cells #[.int .i64 0, .int .i64 x.tei, .bool c, .int .i64 k, .bool p, .int .i64 ns, .int .i64 x.fl.vr, .string i] 45 (0, 0)) * R)) := (h5.eq (show _ = blk e _ * (_ * (_ * (_ * (_ * (blk ga _ * R))))) by ac_rfl)).e_shut rfl rfl hr rfl rfl rfl
    clear h5 d4 f4
    go_wp2_with fail
    refine (e_tell e x ⟨0, ⟨0, x.tei, c, k, p, ns, x.fl.vr, i⟩, noStr, 0⟩ hl w0 w3 _ h6).mono ?_
    rintro r w4 ⟨rfl, h7⟩
    go_wp2
    go_end0
    exact ⟨rfl, h7.f2.drop⟩
end Go.Proofs.YtoophfokbioaaaaDoor
