/- The entity: Timeout, Assign, View. -/
import Derived.Test.YtoophfokbioaaaaDoorEntU
namespace Go.Proofs.YtoophfokbioaaaaDoor
open Go.RowKit

set_option maxRecDepth 100000 in
set_option maxHeartbeats 1600000 in
theorem e_timeout (e : Nat) (x : En) (t : Int) (ok : x.fl.Ok) (ht0 : t = 200 ∨ t = 203 ∨ x.runs t = false) (hk : kInt.ok t) (htr : 0 ≤ x.tries ∧ x.tries ≤ 1000) (hl : x.out.length ≤ 95000) (w0 w : World) (R : HP) (h : St w0 w (EnAt e x * R)) :
    Calls Tryd.prog 13 #[ptr e, .int .i64 t] w fun r w' => ∃ v, r = .returned v ∧ St w0 w' (LAt TFx 11 Fx.cells v (x.timeout t).2 * (EnAt e (x.timeout t).1 * R)) := by
  obtain ⟨rm, fp, uv, ov, rl, hr, h1⟩ := h.e_open
  have c := h1.cell
  have f := h1.free
  have hb := h1.f3.bm t hk
  rw [hr t] at hb
  unfold En.timeout
  cases hx : x.runs t with
  | false =>
    rw [hx] at hb
    rw [if_pos rfl]
    clear hx
    go_enter Tryd.func13, Tryd.ntmps13
    go_wp2
    go_ret
    exact ⟨_, rfl, h.l_nil _ _ _⟩
  | true =>
    have ht : t = 200 ∨ t = 203 := by
      rcases ht0 with h' | h' | h'
      · exact .inl h'
      · exact .inr h'
      · rw [hx] at h'; cases h'
    rw [hx] at hb
    rw [if_neg (by simp)]
    clear hx ht0
    simp only []
    by_cases s5 : x.state = 5
    · rw [if_pos s5]
      go_enter Tryd.func13, Tryd.ntmps13
      go_upto_region 4 with (at_mapUpdate; refine wp_mput rfl (.tmp 19) (.tmp 20) (.const (Value.bool false)) 60 rfl tyBM h1.f3 rfl t rfl hk false rfl ?_; intro w5 h4)
      have h5 : St w0 w5 (EnAt e (x.setT t false) * R) := h4.b3.e_shut (x.setT_cells t false rm fp uv ov).symm (x.setT_out t false).symm (fun u => by rw [bOf_put, x.setT_runs ht, hr]) (x.setT_fl t false).symm (by rw [x.setT_units]) (by rw [x.setT_units])
      clear h4 h1 h c f hb
      have ok0 : (x.setT t false).fl.Ok := by rw [En.setT_fl]; exact ok
      have lo0 : (x.setT t false).out.length ≤ 95000 := by rw [En.setT_out]; exact hl
      have st0 : (x.setT t false).state = x.state := x.setT_state t false
      have tr0 : (x.setT t false).tries = x.tries := x.setT_tries t false
      have mo0 : (x.setT t false).most = x.most := x.setT_most t false
      generalize hx0 : x.setT t false = x0 at *
      have HX := Lib.hid hx0
      clear hx0
      have c1 := h5.e_c1
      rw [st0, s5] at c1
      clear s5 st0
      go_wp2_with fail
      refine (e_again e x0 4 ⟨#[71]⟩ 3 ok0 (by rw [tr0]; exact htr) (by omega) w0 _ R h5).mono ?_
      rintro r w6 ⟨rfl, h6⟩
      clear c1 h5
      go_wp2_with fail
      refine (e_done e _ w0 _ _ h6).mono ?_
      rintro r w7 ⟨v, rfl, h7⟩
      go_wp2
      go_ret
      exact ⟨v, rfl, by rw [HX.out]; exact h7⟩
    rw [if_neg s5]
    by_cases s6 : x.state = 6
    · rw [if_pos s6]
      go_enter Tryd.func13, Tryd.ntmps13
      go_upto_region 4 with (at_mapUpdate; refine wp_mput rfl (.tmp 19) (.tmp 20) (.const (Value.bool false)) 60 rfl tyBM h1.f3 rfl t rfl hk false rfl ?_; intro w5 h4)
      have h5 : St w0 w5 (EnAt e (x.setT t false) * R) := h4.b3.e_shut (x.setT_cells t false rm fp uv ov).symm (x.setT_out t false).symm (fun u => by rw [bOf_put, x.setT_runs ht, hr]) (x.setT_fl t false).symm (by rw [x.setT_units]) (by rw [x.setT_units])
      clear h4 h1 h c f hb
      have ok0 : (x.setT t false).fl.Ok := by rw [En.setT_fl]; exact ok
      have lo0 : (x.setT t false).out.length ≤ 95000 := by rw [En.setT_out]; exact hl
      have st0 : (x.setT t false).state = x.state := x.setT_state t false
      have tr0 : (x.setT t false).tries = x.tries := x.setT_tries t false
      have mo0 : (x.setT t false).most = x.most := x.setT_most t false
      generalize hx0 : x.setT t false = x0 at *
      have HX := Lib.hid hx0
      clear hx0
      have c1 := h5.e_c1
      rw [st0, s6] at c1
      clear s6 st0
      go_wp2_with fail
      refine (e_again e x0 7 ⟨#[72]⟩ 4 ok0 (by rw [tr0]; exact htr) (by omega) w0 _ R h5).mono ?_
      rintro r w6 ⟨rfl, h6⟩
      clear c1 h5
      go_wp2_with fail
      refine (e_done e _ w0 _ _ h6).mono ?_
      rintro r w7 ⟨v, rfl, h7⟩
      go_wp2
      go_ret
      exact ⟨v, rfl, by rw [HX.out]; exact h7⟩
    rw [if_neg s6]
    by_cases s7 : x.state = 7
    · rw [if_pos s7]
      go_enter Tryd.func13, Tryd.ntmps13
      go_upto_region 4 with (at_mapUpdate; refine wp_mput rfl (.tmp 19) (.tmp 20) (.const (Value.bool false)) 60 rfl tyBM h1.f3 rfl t rfl hk false rfl ?_; intro w5 h4)
      have h5 : St w0 w5 (EnAt e (x.setT t false) * R) := h4.b3.e_shut (x.setT_cells t false rm fp uv ov).symm (x.setT_out t false).symm (fun u => by rw [bOf_put, x.setT_runs ht, hr]) (x.setT_fl t false).symm (by rw [x.setT_units]) (by rw [x.setT_units])
      clear h4 h1 h c f hb
      have ok0 : (x.setT t false).fl.Ok := by rw [En.setT_fl]; exact ok
      have lo0 : (x.setT t false).out.length ≤ 95000 := by rw [En.setT_out]; exact hl
      have st0 : (x.setT t false).state = x.state := x.setT_state t false
      have tr0 : (x.setT t false).tries = x.tries := x.setT_tries t false
      have mo0 : (x.setT t false).most = x.most := x.setT_most t false
      generalize hx0 : x.setT t false = x0 at *
      have HX := Lib.hid hx0
      clear hx0
      have c1 := h5.e_c1
      rw [st0, s7] at c1
      clear s7 st0
      have f5 := h5.e_fr
      have c3 := h5.e_c3
      have h8 := h5.e_set_tries 0
      go_wp2_with fail
      refine (e_inquire e (x0.setTries 0) ok0 (show x0.out.length ≤ 99990 by omega) w0 _ R h8).mono ?_
      rintro r w6 ⟨rfl, h9⟩
      clear c1 h5 f5 c3 h8
      have f9 := h9.e_fr
      have c9 := h9.e_c1
      have h6 := h9.e_set_state 8
      go_wp2_with fail
      refine (e_done e _ w0 _ _ h6).mono ?_
      rintro r w7 ⟨v, rfl, h7⟩
      go_wp2
      go_ret
      exact ⟨v, rfl, by rw [HX.out]; exact h7⟩
    rw [if_neg s7]
    by_cases s8 : x.state = 8
    · rw [if_pos s8]
      by_cases hm : x.tries = x.most
      · rw [if_pos hm]
        go_enter Tryd.func13, Tryd.ntmps13
        go_upto_region 4 with (at_mapUpdate; refine wp_mput rfl (.tmp 19) (.tmp 20) (.const (Value.bool false)) 60 rfl tyBM h1.f3 rfl t rfl hk false rfl ?_; intro w5 h4)
        have h5 : St w0 w5 (EnAt e (x.setT t false) * R) := h4.b3.e_shut (x.setT_cells t false rm fp uv ov).symm (x.setT_out t false).symm (fun u => by rw [bOf_put, x.setT_runs ht, hr]) (x.setT_fl t false).symm (by rw [x.setT_units]) (by rw [x.setT_units])
        clear h4 h1 h c f hb
        have ok0 : (x.setT t false).fl.Ok := by rw [En.setT_fl]; exact ok
        have lo0 : (x.setT t false).out.length ≤ 95000 := by rw [En.setT_out]; exact hl
        have st0 : (x.setT t false).state = x.state := x.setT_state t false
        have tr0 : (x.setT t false).tries = x.tries := x.setT_tries t false
        have mo0 : (x.setT t false).most = x.most := x.setT_most t false
        generalize hx0 : x.setT t false = x0 at *
        have HX := Lib.hid hx0
        clear hx0
        have c1 := h5.e_c1
        rw [st0, s8] at c1
        clear s8 st0
        have c3 := h5.e_c3
        have c0 := h5.e_c0
        have b : (x0.tries == x0.most) = true := by rw [tr0, mo0]; simpa using hm
        clear hm tr0 mo0 htr
        have H5 := Lib.hid h5
        clear h5
        go_upto_region 14 with fail
        go_quiet (fail)
        go_wp2_with fail
        refine (e_anew e x0 ⟨#[73]⟩ ok0 (by omega) w0 _ R (H5.out.drewN _)).mono ?_
        rintro r w6 ⟨rfl, h6⟩
        clear c1 H5 c3 c0 b
        go_wp2_with fail
        refine (e_done e _ w0 _ _ h6).mono ?_
        rintro r w7 ⟨v, rfl, h7⟩
        go_wp2
        go_ret
        exact ⟨v, rfl, by rw [HX.out]; exact h7⟩
      · rw [if_neg hm]
        go_enter Tryd.func13, Tryd.ntmps13
        go_upto_region 4 with (at_mapUpdate; refine wp_mput rfl (.tmp 19) (.tmp 20) (.const (Value.bool false)) 60 rfl tyBM h1.f3 rfl t rfl hk false rfl ?_; intro w5 h4)
        have h5 : St w0 w5 (EnAt e (x.setT t false) * R) := h4.b3.e_shut (x.setT_cells t false rm fp uv ov).symm (x.setT_out t false).symm (fun u => by rw [bOf_put, x.setT_runs ht, hr]) (x.setT_fl t false).symm (by rw [x.setT_units]) (by rw [x.setT_units])
        clear h4 h1 h c f hb
        have ok0 : (x.setT t false).fl.Ok := by rw [En.setT_fl]; exact ok
        have lo0 : (x.setT t false).out.length ≤ 95000 := by rw [En.setT_out]; exact hl
        have st0 : (x.setT t false).state = x.state := x.setT_state t false
        have tr0 : (x.setT t false).tries = x.tries := x.setT_tries t false
        have mo0 : (x.setT t false).most = x.most := x.setT_most t false
        generalize hx0 : x.setT t false = x0 at *
        have HX := Lib.hid hx0
        clear hx0
        have c1 := h5.e_c1
        rw [st0, s8] at c1
        clear s8 st0
        have c3 := h5.e_c3
        rw [tr0] at c3
        have c0 := h5.e_c0
        rw [mo0] at c0
        have b : (x.tries == x.most) = false := by simpa using hm
        have f5 := h5.e_fr
        have hw : IntKind.i64.wrap (x.tries + 1) = x.tries + 1 := by rw [IntKind.wrap_i64]; omega
        clear hm tr0 mo0 htr
        have H5 := Lib.hid h5
        clear h5
        go_upto_region 14 with fail
        go_quiet (fail)
        go_wp2_with fail
        refine (e_inquire e (x0.setTries (x.tries + 1)) ok0 (show x0.out.length ≤ 99990 by omega) w0 _ R ((H5.out.drewN _).e_set_tries (x.tries + 1))).mono ?_
        rintro r w6 ⟨rfl, h6⟩
        clear c1 H5 c3 c0 b f5
        go_wp2_with fail
        refine (e_done e _ w0 _ _ h6).mono ?_
        rintro r w7 ⟨v, rfl, h7⟩
        go_wp2
        go_ret
        exact ⟨v, rfl, by rw [HX.out]; exact h7⟩
    rw [if_neg s8]
    have n5 : (x.state == 5) = false := by simpa using s5
    have n6 : (x.state == 6) = false := by simpa using s6
    have n7 : (x.state == 7) = false := by simpa using s7
    have n8 : (x.state == 8) = false := by simpa using s8
    go_enter Tryd.func13, Tryd.ntmps13
    go_upto_region 4 with (at_mapUpdate; refine wp_mput rfl (.tmp 19) (.tmp 20) (.const (Value.bool false)) 60 rfl tyBM h1.f3 rfl t rfl hk false rfl ?_; intro w5 h4)
    have h5 : St w0 w5 (EnAt e (x.setT t false) * R) := h4.b3.e_shut (x.setT_cells t false rm fp uv ov).symm (x.setT_out t false).symm (fun u => by rw [bOf_put, x.setT_runs ht, hr]) (x.setT_fl t false).symm (by rw [x.setT_units]) (by rw [x.setT_units])
    clear h4 h1 h c f hb
    have ok0 : (x.setT t false).fl.Ok := by rw [En.setT_fl]; exact ok
    have lo0 : (x.setT t false).out.length ≤ 95000 := by rw [En.setT_out]; exact hl
    have st0 : (x.setT t false).state = x.state := x.setT_state t false
    have tr0 : (x.setT t false).tries = x.tries := x.setT_tries t false
    have mo0 : (x.setT t false).most = x.most := x.setT_most t false
    generalize hx0 : x.setT t false = x0 at *
    have HX := Lib.hid hx0
    clear hx0
    have c1 := h5.e_c1
    rw [st0] at c1
    clear st0 tr0 mo0
    have h6 := h5
    go_wp2_with fail
    refine (e_done e _ w0 _ _ h6).mono ?_
    rintro r w7 ⟨v, rfl, h7⟩
    go_wp2
    go_ret
    exact ⟨v, rfl, by rw [HX.out]; exact h7⟩

/-! Assign -/
theorem unit_len (x : En) (s : ByteArray) : (x.unit s).1.out.length ≤ x.out.length + 1 := by
  unfold En.unit
  split
  · exact Nat.le_of_eq (x.sendD_len 6 true false 0 s)
  · split
    · simp
    · split
      · exact Nat.le_of_eq (En.told_len ((x.setUnits (x.units ++ [s])).setState 2) 8 noStr)
      · exact Nat.le_succ _
theorem unit_fl (x : En) (s : ByteArray) : (x.unit s).1.fl = x.fl := by
  unfold En.unit
  split
  · rfl
  · split
    · rfl
    · split <;> rfl
def En.unitsK (x : En) (l : List ByteArray) : En := l.foldl (fun y s => (y.unit s).1) x
theorem unitsK_len (l : List ByteArray) : ∀ x : En, (x.unitsK l).out.length ≤ x.out.length + l.length := by
  induction l with
  | nil => intro x; exact Nat.le_refl _
  | cons s l ih =>
    intro x
    have h1 := ih (x.unit s).1
    have h2 := unit_len x s
    show ((x.unit s).1.unitsK l).out.length ≤ _
    simp only [List.length_cons]
    omega
theorem unitsK_fl (l : List ByteArray) : ∀ x : En, (x.unitsK l).fl = x.fl := by
  induction l with
  | nil => intro x; rfl
  | cons s l ih => intro x; exact (ih (x.unit s).1).trans (unit_fl x s)
theorem unitsK_take (l : List ByteArray) (x : En) (i : Nat) (s : ByteArray) (h : l[i]? = some s) : x.unitsK (l.take (i + 1)) = ((x.unitsK (l.take i)).unit s).1 := by
  unfold En.unitsK
  rw [List.take_add_one, List.foldl_append, h]
  rfl
end Go.Proofs.YtoophfokbioaaaaDoor
