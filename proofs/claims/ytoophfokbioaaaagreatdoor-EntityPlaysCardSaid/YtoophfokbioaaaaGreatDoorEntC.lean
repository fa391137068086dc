/- The entity: told, sendData, send, start, stop; call, anew, supervise, inquire, end. -/
import Derived.Test.YtoophfokbioaaaaGreatDoorEntB
namespace Go.Proofs.YtoophfokbioaaaaGreatDoor
open Go.RowKit

theorem view_f2 (a b c g h : Int) (x y z : Bool) (w : World) : (Instr.field 41 (.agg #[.int .i64 a, .int .i64 b, .int .i64 c, .bool x, .bool y, .bool z, .int .i64 g, .int .i64 h]) 2).run Tryz.prog w = .ok (.int .i64 c) w := by kernel_rfl
theorem view_f4 (a b c g h : Int) (x y z : Bool) (w : World) : (Instr.field 41 (.agg #[.int .i64 a, .int .i64 b, .int .i64 c, .bool x, .bool y, .bool z, .int .i64 g, .int .i64 h]) 4).run Tryz.prog w = .ok (.bool y) w := by kernel_rfl

theorem e_told (e : Nat) (x : En) (k : Int) (d : ByteArray) (hl : x.out.length ≤ 100000) (w0 w : World) (R : HP) (h : St w0 w (EnAt e x * R)) :
    Calls Tryz.prog 42 #[ptr e, .int .i64 k, .string d] w fun r w' => r = .returned (.tuple #[]) ∧ St w0 w' (EnAt e (x.told k d) * R) := by
  go_enter Tryz.func42, Tryz.ntmps42
  go_wp2_with fail
  refine (e_tell e x (.of k d) hl w0 w R h).mono ?_
  rintro r w1 ⟨rfl, h1⟩
  go_wp2
  go_end0
  exact ⟨rfl, h1⟩

theorem e_start (e : Nat) (x : En) (t : Int) (ht : t = 200 ∨ t = 203) (hl : x.out.length ≤ 100000) (w0 w : World) (R : HP) (h : St w0 w (EnAt e x * R)) :
    Calls Tryz.prog 86 #[ptr e, .int .i64 t] w fun r w' => r = .returned (.tuple #[]) ∧ St w0 w' (EnAt e (x.start t) * R) := by
  have hk : kInt.ok t := kok _ (by omega) (by omega)
  obtain ⟨rm, fp, uv, ov, rl, hr, h1⟩ := h.e_open
  have c := h1.cell
  have f := h1.free
  go_enter Tryz.func86, Tryz.ntmps86
  go_wp2_with (at_mapUpdate; refine wp_mput rfl (.tmp 7) (.tmp 8) (.const (Value.bool true)) 75 rfl tyBM h1.f3 rfl t rfl hk true rfl ?_; intro w5 h4)
  have h5 : St w0 w5 (EnAt e (x.setT t true) * R) := h4.b3.e_shut (x.setT_cells t true rm fp uv ov).symm (x.setT_out t true).symm (fun u => by rw [bOf_put, x.setT_runs ht, hr]) (x.setT_fl t true).symm (by rw [x.setT_units]) (by rw [x.setT_units])
  clear h4 h1 h c f
  go_wp2_with fail
  refine (e_tell e (x.setT t true) (.tim 9 t) (by rw [En.setT_out]; exact hl) w0 w5 R h5).mono ?_
  rintro r w6 ⟨rfl, h6⟩
  go_wp2
  go_end0
  exact ⟨rfl, h6⟩

theorem e_stop (e : Nat) (x : En) (t : Int) (ht : t = 200 ∨ t = 203) (hl : x.out.length ≤ 100000) (w0 w : World) (R : HP) (h : St w0 w (EnAt e x * R)) :
    Calls Tryz.prog 85 #[ptr e, .int .i64 t] w fun r w' => r = .returned (.tuple #[]) ∧ St w0 w' (EnAt e (x.stop t) * R) := by
  have hk : kInt.ok t := kok _ (by omega) (by omega)
  obtain ⟨rm, fp, uv, ov, rl, hr, h1⟩ := h.e_open
  have c := h1.cell
  have f := h1.free
  have hb := h1.f3.bm t hk
  rw [hr t] at hb
  unfold En.stop
  cases hx : x.runs t with
  | false =>
    rw [hx] at hb
    rw [if_neg (by simp)]
    go_enter Tryz.func85, Tryz.ntmps85
    go_wp2
    go_end0
    exact ⟨rfl, h⟩
  | true =>
    rw [hx] at hb
    rw [if_pos rfl]
    go_enter Tryz.func85, Tryz.ntmps85
    go_wp2_with (at_mapUpdate; refine wp_mput rfl (.tmp 13) (.tmp 14) (.const (Value.bool false)) 75 rfl tyBM h1.f3 rfl t rfl hk false rfl ?_; intro w5 h4)
    have h5 : St w0 w5 (EnAt e (x.setT t false) * R) := h4.b3.e_shut (x.setT_cells t false rm fp uv ov).symm (x.setT_out t false).symm (fun u => by rw [bOf_put, x.setT_runs ht, hr]) (x.setT_fl t false).symm (by rw [x.setT_units]) (by rw [x.setT_units])
    clear h4 h1 h c f hb
    go_wp2_with fail
    refine (e_tell e (x.setT t false) (.tim 10 t) (by rw [En.setT_out]; exact hl) w0 w5 R h5).mono ?_
    rintro r w6 ⟨rfl, h6⟩
    go_wp2
    go_end0
    exact ⟨rfl, h6⟩

theorem e_sendD (e : Nat) (x : En) (k : Int) (c p : Bool) (ns : Int) (i : ByteArray) (ok : x.fl.Ok) (hl : x.out.length ≤ 100000) (w0 w : World) (R : HP) (h : St w0 w (EnAt e x * R)) :
    Calls Tryz.prog 89 #[ptr e, .int .i64 k, .bool c, .bool p, .int .i64 ns, .string i] w fun r w' => r = .returned (.tuple #[]) ∧ St w0 w' (EnAt e (x.sendD k c p ns i) * R) := by
  obtain ⟨rm, fp, uv, ov, rl, hr, h1⟩ := h.e_open
  have c0 := h1.cell
  have h2 := h1.alloc (.cells #[.int .i64 0, .int .i64 x.tei, .bool c, .int .i64 k, .bool p, .int .i64 ns, .int .i64 0, .string i] 54)
  have hv2 := view_f2
  unfold En.sendD
  have hk := k_numb k
  clear h h1
  cases hn : numb k with
  | false =>
    rw [hn] at hk
    rw [if_neg (by simp)]
    go_enter Tryz.func89, Tryz.ntmps89
    go_upto_region 1 with fail
    generalize w.alloc _ = wa at *
    generalize w.heap.size = ga at *
    have d := h2.cell
    have ce := h2.f2.cell
    clear c0
    go_wp2_with fail
    refine (hk wa).mono ?_
    rintro r w1 ⟨rfl, rfl⟩
    have h3 : St w0 w1 (EnAt e x * (blk ga _ * R)) := (h2.eq (show _ = blk e _ * (_ * (_ * (_ * (_ * (blk ga _ * R))))) by ac_rfl)).e_shut rfl rfl hr rfl rfl rfl
    go_wp2_with fail
    refine (e_tell e x ⟨0, ⟨0, x.tei, c, k, p, ns, 0, i⟩, noStr, 0⟩ hl w0 w1 _ h3).mono ?_
    rintro r w2 ⟨rfl, h4⟩
    go_wp2
    go_end0
    exact ⟨rfl, h4.f2.drop⟩
  | true =>
    rw [hn] at hk
    rw [if_pos rfl]
    go_enter Tryz.func89, Tryz.ntmps89
    go_upto_region 1 with fail
    generalize w.alloc _ = wa at *
    generalize w.heap.size = ga at *
    have d := h2.cell
    have ce := h2.f2.cell
    clear c0
    go_wp2_with fail
    refine (hk wa).mono ?_
    rintro r w1 ⟨rfl, rfl⟩
    have hv := f_view fp x.fl w0 w1 _ h2.f5 ok
    unfold Fl.view at hv
    go_wp2_with fail
    refine hv.mono ?_
    rintro r w2 ⟨rfl, h3⟩
    have h4 := h3.b5
    have d4 := h4.cell
    have f4 := h4.free
    have h5 := h4.set 6 (.int .i64 x.fl.vr)
    clear h2 h3 h4 d ce hv
    go_upto_region 3 with fail
    generalize w2.setCell _ _ = w3 at *
    have d5 := h5.cell
    have h6 : St w0 w3 (EnAt e x * (blk ga (.cells #[.int .i64 0, .int .i64 x.tei, .bool c, .int .i64 k, .bool p, .int .i64 ns, .int .i64 x.fl.vr, .string i] 54 (0, 0)) * R)) := (h5.eq (show _ = blk e _ * (_ * (_ * (_ * (_ * (blk ga _ * R))))) by ac_rfl)).e_shut rfl rfl hr rfl rfl rfl
    clear h5 d4 f4
    go_wp2_with fail
    refine (e_tell e x ⟨0, ⟨0, x.tei, c, k, p, ns, x.fl.vr, i⟩, noStr, 0⟩ hl w0 w3 _ h6).mono ?_
    rintro r w4 ⟨rfl, h7⟩
    go_wp2
    go_end0
    exact ⟨rfl, h7.f2.drop⟩
end Go.Proofs.YtoophfokbioaaaaGreatDoor
