/- The laws of terminals: plain laws of errors; a loss of power. A terminal whose requests nobody answers: plain law. The laws of terminals: a configuration that may be, of any numbers. TerminalFails: the walk. -/
import Derived.Test.YtnnahljdhdippaaGreatDoorB31
namespace Go.Proofs.YtnnahljdhdippaaGreatDoor
open Go.RowKit

section
variable {x : Tt}
theorem bits_code (now : Int) (b : ByteArray) : (x.bits now b).2 = if badNow now = true then 2 else 0 := by unfold Tt.bits; split <;> rfl
theorem tick_code (now : Int) : (x.tick now).2 = if badNow now = true then 2 else 0 := by unfold Tt.tick; split <;> rfl
theorem drop_code (now : Int) : (x.drop now).2 = if badNow now = true then 2 else 0 := by unfold Tt.drop; split <;> rfl
theorem remove_state (e : En) : e.remove.1.state = 1 := by
  unfold En.remove
  split
  · assumption
  · rfl
theorem drop_state (hfit : x.Fit) (now : Int) (hb : badNow now = false) : (x.drop now).1.e.state = 1 := by
  unfold Tt.drop
  rw [hb, if_neg (by decide)]
  dsimp only
  have h1 := (fit_users x.u.drop.2.1 (fit_setU (fit_begin hfit now) (us_drop hfit.u).1)).1
  generalize ((x.begin now).setU x.u.drop.1).users x.u.drop.2.1 = y at *
  obtain ⟨_, h3⟩ := fit_remove h1.e
  rw [links_eq _ _ (fun z hz => (h3 z hz).1.2.2)]
  show ((y.setE y.e.remove.1).links0 y.e.remove.2.1).e.state = 1
  rw [links0_e]
  exact remove_state y.e
theorem ask_unit (e : En) (h : e.Fit) (hs : e.state = 1) (d : ByteArray) (hd : d.size ≤ 260) : (e.ask 3 d).2.2 = 0 := by
  have hu := (h.lo (by omega)).2.2.2.2.2 hs
  unfold En.ask
  rw [if_neg (by decide), if_neg (by omega)]
  show (e.unit d).2 = 0
  unfold En.unit
  rw [if_neg (by omega), hu, if_neg (by simp), if_pos hs]
end
/-- is a configuration one that may be? by the document -/
theorem good_of {c : Tcf} : c.good = (decide (1 ≤ c.t200) && decide (c.t200 ≤ 1048576) && (decide (1 ≤ c.t202) && decide (c.t202 ≤ 1048576)) && (decide (1 ≤ c.t203) && decide (c.t203 ≤ 1048576))) := by
  have key : ∀ p : Int, (!badP p) = (decide (1 ≤ p) && decide (p ≤ 1048576)) := fun p => by
    unfold badP
    by_cases a : 1 ≤ p <;> by_cases b : p ≤ 1048576 <;> simp [a, b] <;> omega
  unfold Tcf.good
  rw [key, key, key]
set_option maxRecDepth 100000 in
theorem l_Good (c : Tcf) (w0 w : World) (R : HP) (h : St w0 w R) :
    Calls Tryz.prog 28 #[.agg c.cells.toArray] w fun r w' => r = .returned (.bool c.good) ∧ St w0 w' R := by
  have h1 := h.alloc (.cells c.cells.toArray 27)
  rw [good_of]
  obtain ⟨c1, c2, c3, c4, c5, c6⟩ := c
  simp only [Tcf.cells] at *
  have cg := h1.cell
  have g4 : decide (c4 ≥ 1) = decide (1 ≤ c4) := rfl
  have g5 : decide (c5 ≥ 1) = decide (1 ≤ c5) := rfl
  have g6 : decide (c6 ≥ 1) = decide (1 ≤ c6) := rfl
  clear h
  cases a4 : decide (1 ≤ c4) with
  | false =>
    go_enter Tryz.func28, Tryz.ntmps28
    go_wp2
    go_ret
    exact ⟨rfl, h1.drop⟩
  | true =>
    cases b4 : decide (c4 ≤ 1048576) with
    | false =>
      go_enter Tryz.func28, Tryz.ntmps28
      go_wp2
      go_ret
      exact ⟨rfl, h1.drop⟩
    | true =>
      cases a5 : decide (1 ≤ c5) with
      | false =>
        go_enter Tryz.func28, Tryz.ntmps28
        go_wp2
        go_ret
        exact ⟨rfl, h1.drop⟩
      | true =>
        cases b5 : decide (c5 ≤ 1048576) with
        | false =>
          go_enter Tryz.func28, Tryz.ntmps28
          go_wp2
          go_ret
          exact ⟨rfl, h1.drop⟩
        | true =>
          cases a6 : decide (1 ≤ c6) with
          | false =>
            go_enter Tryz.func28, Tryz.ntmps28
            go_wp2
            go_ret
            exact ⟨rfl, h1.drop⟩
          | true =>
            cases b6 : decide (c6 ≤ 1048576) with
            | false =>
              go_enter Tryz.func28, Tryz.ntmps28
              go_wp2
              go_ret
              exact ⟨rfl, h1.drop⟩
            | true =>
              go_enter Tryz.func28, Tryz.ntmps28
              go_wp2
              go_ret
              exact ⟨rfl, h1.drop⟩
end Go.Proofs.YtnnahljdhdippaaGreatDoor

namespace Go.Proofs.YtnnahljdhdippaaGreatDoor
open Go.RowKit

/-- behind the i-th request -/
structure FailI (cf : Tcf) (T : Int) (M i : Nat) (x : Tt) : Prop where
  fit : x.Fit
  cf : x.cf = cf
  st : x.e.state = 3
  t2 : x.e.t2 = false
  t3 : x.e.t3 = false
  tei : x.u.v.tei = -1
  asking : x.u.v.asking = true
  tries : x.u.v.tries = (i : Int) + 1
  most : x.u.most = (M : Int)
  c : x.c = [(((0, 202) : Key), ((i : Int) + 1) * T)]
theorem due_one (k : Key) (v now : Int) (h : v ≤ now) : dueK [(k, v)] now = [k] ∧ leftK [(k, v)] now = [] := by
  constructor
  · unfold dueK
    rw [List.filter_cons_of_pos (by simpa using h), List.filter_nil]
    show sortK _ [k] = [k]
    unfold sortK
    exact List.mergeSort_singleton _
  · unfold leftK
    rw [List.filter_cons_of_neg (by simp; omega), List.filter_nil]
theorem start_one (k : Key) (now p : Int) (h : badStart now p = false) : (cstart [] k now p).1 = [(k, now + p)] := by
  unfold cstart
  rw [h, if_neg (by decide)]
  rfl
theorem badStart_f {now p : Int} (a : 0 ≤ now) (b : now ≤ 9007199254740992) (c : 1 ≤ p) (d : p ≤ 1048576) : badStart now p = false := by
  unfold badStart
  exact decide_eq_false (by omega)
theorem badNow_f {now : Int} (a : 0 ≤ now) (b : now ≤ 9007199254740992) : badNow now = false := by
  unfold badNow
  exact decide_eq_false (by omega)
theorem fail_start (cf : Tcf) (d : Dr) (M : Nat) (hM : max 1 (min cf.n202 32) = (M : Int)) (h1 : 1 ≤ cf.t202) (h2 : cf.t202 ≤ 1000) :
    FailI cf cf.t202 M 0 ((newTt cf d).ask 0 0 noStr).1 ∧ ((newTt cf d).ask 0 0 noStr).2 = 0 ∧ ((newTt cf d).ask 0 0 noStr).1.sent.length = 1 := by
  have hf := fit_tt_ask (fit_tt_new cf d) 0 0 noStr
  have hb : badNow 0 = false := badNow_f (by decide) (by decide)
  have e : (newTt cf d).ask 0 0 noStr = ((((newTt cf d).begin 0).setE ((newEn cf.k cf.n200).setState 3)).links [Fx.of 8 noStr], 0) := by
    unfold Tt.ask
    rw [hb, if_neg (by decide)]
    rfl
  rw [e] at hf ⊢
  rw [links_wish] at hf ⊢
  refine ⟨?_, rfl, rfl⟩
  have hc : ((((((newTt cf d).begin 0).setE ((newEn cf.k cf.n200).setState 3)).setU (((newTt cf d).begin 0).setE ((newEn cf.k cf.n200).setState 3)).u.want.1).users (((newTt cf d).begin 0).setE ((newEn cf.k cf.n200).setState 3)).u.want.2.1).c) = (cstart [] (0, 202) 0 cf.t202).1 := rfl
  exact ⟨hf, rfl, rfl, rfl, rfl, rfl, rfl, rfl, hM, by rw [hc, start_one _ _ _ (badStart_f (by decide) (by decide) h1 (by omega))]; simp⟩
theorem tick_one {x : Tt} {now : Int} {v : Int} (hb : badNow now = false) (hc : x.c = [(((0, 202) : Key), v)]) (hv : v ≤ now) :
    x.tick now = ((((x.begin now).setC []).setU x.u.timeout.1).users x.u.timeout.2, 0) := by
  obtain ⟨d1, d2⟩ := due_one (0, 202) v now hv
  unfold Tt.tick
  rw [hb, if_neg (by decide), hc, d1, d2]
  have e : ((x.begin now).setC []).u = x.u := rfl
  generalize (x.begin now).setC [] = y at *
  simp only [List.foldl_cons, List.foldl_nil]
  unfold Tt.over
  rw [if_pos rfl, e]
theorem remove_three {e : En} (hs : e.state = 3) (h2 : e.t2 = false) (h3 : e.t3 = false) (ho : e.out = []) : e.remove.2.1 = [Fx.of 3 noStr] := by
  unfold En.remove
  rw [if_neg (by omega)]
  dsimp only
  rw [if_pos (.inl hs)]
  have e1 : (e.setFl e.fl.clear).stop 200 = e.setFl e.fl.clear := by
    unfold En.stop
    rw [if_neg (by unfold En.runs; rw [if_pos rfl]; show ¬ e.t2 = true; rw [h2]; decide)]
  have e2 : (e.setFl e.fl.clear).stop 203 = e.setFl e.fl.clear := by
    unfold En.stop
    rw [if_neg (by unfold En.runs; rw [if_neg (by decide), if_pos rfl]; show ¬ e.t3 = true; rw [h3]; decide)]
  have e3 : e.end1 = (e.setFl e.fl.clear).setState 4 := by
    show (((e.setFl e.fl.clear).stop 200).stop 203).setState 4 = _
    rw [e1, e2]
  rw [e3]
  show e.out ++ [Fx.of 3 noStr] = _
  rw [ho]
  rfl
theorem fail_last {cf : Tcf} {T : Int} {M i : Nat} {x : Tt} (h : FailI cf T M i x) (hi : i + 1 = M) (hT : 1 ≤ T) (hT2 : T ≤ 1000) :
    (x.tick (((i : Int) + 1) * T)).2 = 0 ∧ (x.tick (((i : Int) + 1) * T)).1.sent = [] ∧ (x.tick (((i : Int) + 1) * T)).1.told = [(3, noStr)] ∧ (x.tick (((i : Int) + 1) * T)).1.e.state = 1 ∧ (x.tick (((i : Int) + 1) * T)).1.u.v.asking = false := by
  have hM := h.fit.u.m32
  rw [h.most] at hM
  have n0 : 0 ≤ ((i : Int) + 1) * T := Int.mul_nonneg (by omega) (by omega)
  have n1 : ((i : Int) + 1) * T ≤ 32 * 1000 := Int.mul_le_mul (by omega) hT2 (by omega) (by omega)
  rw [tick_one (badNow_f n0 (by omega)) h.c (Int.le_refl _)]
  have hu : x.u.timeout = ({ x.u with v := .zero }, [.of 3 0]) := by
    unfold Us.timeout
    rw [if_neg (by rw [h.asking]; decide), if_pos (by rw [h.tries, h.most]; omega)]
  rw [hu]
  generalize ((i : Int) + 1) * T = now at *
  have e : (((x.begin now).setC []).setU { x.u with v := .zero }).users [.of 3 0] = ((((x.begin now).setC []).setU { x.u with v := .zero }).setE x.e.remove.1).links0 x.e.remove.2.1 := rfl
  rw [e, remove_three h.st h.t2 h.t3 h.fit.e.out]
  exact ⟨rfl, rfl, rfl, remove_state x.e, rfl⟩
theorem fail_next {cf : Tcf} {T : Int} {M i : Nat} {x : Tt} (h : FailI cf T M i x) (hi : i + 1 < M) (hT : 1 ≤ T) (hT2 : T ≤ 1000) (hcf : cf.t202 = T) :
    (x.tick (((i : Int) + 1) * T)).2 = 0 ∧ (x.tick (((i : Int) + 1) * T)).1.sent.length = 1 ∧ (x.tick (((i : Int) + 1) * T)).1.told = [] ∧ FailI cf T M (i + 1) (x.tick (((i : Int) + 1) * T)).1 := by
  have hM := h.fit.u.m32
  rw [h.most] at hM
  have n0 : 0 ≤ ((i : Int) + 1) * T := Int.mul_nonneg (by omega) (by omega)
  have n1 : ((i : Int) + 1) * T ≤ 32 * 1000 := Int.mul_le_mul (by omega) hT2 (by omega) (by omega)
  have hf := fit_tick h.fit (((i : Int) + 1) * T)
  rw [tick_one (badNow_f n0 (by omega)) h.c (Int.le_refl _)] at hf ⊢
  have hu : x.u.timeout = x.u.ask (x.u.v.tries + 1) := by
    unfold Us.timeout
    rw [if_neg (by rw [h.asking]; decide), if_neg (by rw [h.tries, h.most]; omega)]
  rw [hu] at hf ⊢
  have hadd : ((i : Int) + 1) * T + T = (((i + 1 : Nat) : Int) + 1) * T := by rw [Int.add_mul (((i + 1 : Nat) : Int)) 1 T]; simp
  generalize hn : ((i : Int) + 1) * T = now at *
  have hc : ((((x.begin now).setC []).setU (x.u.ask (x.u.v.tries + 1)).1).users (x.u.ask (x.u.v.tries + 1)).2).c = (cstart [] (0, 202) now x.cf.t202).1 := rfl
  refine ⟨rfl, rfl, rfl, ⟨hf, h.cf, h.st, h.t2, h.t3, rfl, rfl, ?_, h.most, ?_⟩⟩
  · show x.u.v.tries + 1 = _
    rw [h.tries]
    omega
  · rw [hc, h.cf, hcf, start_one _ _ _ (badStart_f n0 (by omega) hT (by omega)), hadd]
end Go.Proofs.YtnnahljdhdippaaGreatDoor

namespace Go.Proofs.YtnnahljdhdippaaGreatDoor
open Go.RowKit

def goodC (c : Tcf) : Tcf := { c with t200 := 1 + max 0 c.t200 % 100, t202 := 1 + max 0 c.t202 % 100, t203 := 1 + max 0 c.t203 % 1000 }
theorem goodC_range (c : Tcf) : (1 ≤ (goodC c).t200 ∧ (goodC c).t200 ≤ 100) ∧ (1 ≤ (goodC c).t202 ∧ (goodC c).t202 ≤ 100) ∧ (1 ≤ (goodC c).t203 ∧ (goodC c).t203 ≤ 1000) := by
  unfold goodC
  dsimp only
  omega
theorem goodC_good (c : Tcf) : (goodC c).good = true := by
  obtain ⟨h1, h2, h3⟩ := goodC_range c
  rw [good_of]
  simp
  omega
set_option maxRecDepth 100000 in
set_option maxHeartbeats 1600000 in
theorem l_good (c : Tcf) (w0 w : World) (R : HP) (h : St w0 w R) :
    Calls Tryz.prog 10 #[.agg c.cells.toArray] w fun r w' => r = .returned (.tuple #[.agg (goodC c).cells.toArray, .agg (goodC c).cells.toArray]) ∧ St w0 w' R := by
  have h1 := ((h.alloc (.cells c.cells.toArray 23)).alloc (.cells #[.int .i64 0, .int .i64 0, .int .i64 0, .int .i64 0, .int .i64 0, .int .i64 0] TCf)).alloc (.cells #[.int .i64 0, .int .i64 0, .int .i64 0, .int .i64 0, .int .i64 0, .int .i64 0] 27)
  unfold goodC
  obtain ⟨c1, c2, c3, c4, c5, c6⟩ := c
  simp only [Tcf.cells] at *
  clear h
  go_enter Tryz.func10, Tryz.ntmps10
  go_upto_region 1 with fail
  simp only [World.size_alloc] at *
  generalize ((w.alloc _).alloc _).alloc _ = wa at *
  generalize w.heap.size = ga at *
  have d := h1.f3.cell
  have fr := h1.f3.free
  have h2 := ((h1.f3.set 3 (.int .i64 (1 + max 0 c4 % 100))).set 4 (.int .i64 (1 + max 0 c5 % 100))).set 5 (.int .i64 (1 + max 0 c6 % 1000))
  go_upto_region 2 with fail
  generalize ((wa.setCell _ _).setCell _ _).setCell _ _ = wb at *
  clear h1 d fr
  have e0 : wb.drew.cell? ⟨ga, 0, none⟩ = some (.int .i64 c1) := (h2.drew.cell 0).trans rfl
  have e1 : wb.drew.cell? ⟨ga, 1, none⟩ = some (.int .i64 c2) := (h2.drew.cell 1).trans rfl
  have e2 : wb.drew.cell? ⟨ga, 2, none⟩ = some (.int .i64 c3) := (h2.drew.cell 2).trans rfl
  have e3 : wb.drew.cell? ⟨ga, 3, none⟩ = some (.int .i64 (1 + max 0 c4 % 100)) := (h2.drew.cell 3).trans rfl
  have e4 : wb.drew.cell? ⟨ga, 4, none⟩ = some (.int .i64 (1 + max 0 c5 % 100)) := (h2.drew.cell 4).trans rfl
  have e5 : wb.drew.cell? ⟨ga, 5, none⟩ = some (.int .i64 (1 + max 0 c6 % 1000)) := (h2.drew.cell 5).trans rfl
  have h3 := h2.drew
  clear h2
  generalize hx4 : 1 + max 0 c4 % 100 = d4 at *
  generalize hx5 : 1 + max 0 c5 % 100 = d5 at *
  generalize hx6 : 1 + max 0 c6 % 1000 = d6 at *
  have HX := Lib.hid (And.intro hx4 (And.intro hx5 hx6))
  clear hx4 hx5 hx6
  refine wp_region_held_drew (S := fun wx => wx.cell? ⟨ga, 0, none⟩ = some (.int .i64 c1) ∧ wx.cell? ⟨ga, 1, none⟩ = some (.int .i64 c2) ∧ wx.cell? ⟨ga, 2, none⟩ = some (.int .i64 c3) ∧ wx.cell? ⟨ga, 3, none⟩ = some (.int .i64 d4) ∧ wx.cell? ⟨ga, 4, none⟩ = some (.int .i64 d5) ∧ wx.cell? ⟨ga, 5, none⟩ = some (.int .i64 d6)) (by kernel_rfl) ⟨e0, e1, e2, e3, e4, e5⟩ (fun hHeld => ?_)
  clear e0 e1 e2 e3 e4 e5
  generalize wb.drew = wd at *
  have fa := h3.f3.free
  have fb := h3.f2.free
  have ca := h3.f3.cell
  have cb := h3.f2.cell
  have h4 := (((((h3.f3.set 0 (.int .i64 c1)).set 1 (.int .i64 c2)).set 2 (.int .i64 c3)).set 3 (.int .i64 d4)).set 4 (.int .i64 d5)).set 5 (.int .i64 d6)
  refine wpAnyH_take (i := 0) (oi := { dst := some 22, op := Op.load 23 (Operand.tmp 1), type := 23, pos := "law.go:127", after := #[], guard := none }) (v := ?_) rfl (by kernel_rfl) (by kernel_rfl) (by kernel_rfl) (fun _ _ _ h => h) (Or.inl ⟨by rfl, ?_⟩) (by assumption) ?_
  rotate_left 1
  · intro w hSw
    try dsimp only at hSw
    go_simp
    try with_reducible rfl
  try simp only [Act.put, List.setIfInBounds_toArray, List.set_cons_zero, List.set_cons_succ]
  refine wpAnyH_take (i := 1) (oi := { dst := some 23, op := Op.load 23 (Operand.tmp 1), type := 23, pos := "law.go:127", after := #[{ on := 2, ground := Ground.gcOnly Departure.lateStores }], guard := none }) (v := ?_) rfl (by kernel_rfl) (by kernel_rfl) (by kernel_rfl) (fun _ _ _ h => h) (Or.inl ⟨by rfl, ?_⟩) (by assumption) ?_
  rotate_left 1
  · intro w hSw
    try dsimp only at hSw
    go_simp
    try with_reducible rfl
  try simp only [Act.put, List.setIfInBounds_toArray, List.set_cons_zero, List.set_cons_succ]
  refine wpAnyH_ready (rs := [2]) (by kernel_rfl) (by simp) ?_
  refine AllReadyH.cons (o := { dst := none, op := Op.store 26 (Operand.tmp 2) (Operand.tmp 22), type := 0, pos := "law.go:127", after := #[{ on := 0, ground := Ground.data }, { on := 0, ground := Ground.phase }, { on := 1, ground := Ground.textOnly Departure.lateStores }], guard := none }) rfl (fun K hK => ?_) ?_
  rotate_left 1
  · exact AllReadyH.nil
  go_simp
  have cg := h4.f2.cell
  go_simp
  refine hK.out _ _ ⟨(cg 0).trans rfl, (cg 1).trans rfl, (cg 2).trans rfl, (cg 3).trans rfl, (cg 4).trans rfl, (cg 5).trans rfl⟩ (fun hHeld => ?_)
  clear hK K
  try simp only [Act.put, List.setIfInBounds_toArray, List.set_cons_zero, List.set_cons_succ]
  clear fa fb ca cb cg h3
  generalize (((((wd.setCell _ _).setCell _ _).setCell _ _).setCell _ _).setCell _ _).setCell _ _ = we at *
  have fb := h4.f3.free
  have cb := h4.f3.cell
  have h5 := (((((h4.f3.set 0 (.int .i64 c1)).set 1 (.int .i64 c2)).set 2 (.int .i64 c3)).set 3 (.int .i64 d4)).set 4 (.int .i64 d5)).set 5 (.int .i64 d6)
  refine wpAnyH_ready (rs := [3]) (by kernel_rfl) (by simp) ?_
  refine AllReadyH.cons (o := { dst := none, op := Op.store 27 (Operand.tmp 3) (Operand.tmp 23), type := 0, pos := "law.go:127", after := #[{ on := 1, ground := Ground.data }, { on := 2, ground := Ground.chain }, { on := 0, ground := Ground.phase }, { on := 1, ground := Ground.phase }, { on := 2, ground := Ground.phase }], guard := none }) rfl (fun K hK => ?_) ?_
  rotate_left 1
  · exact AllReadyH.nil
  go_simp
  have cg := h5.f3.cell
  go_simp
  refine hK.out _ _ ⟨(cg 0).trans rfl, (cg 1).trans rfl, (cg 2).trans rfl, (cg 3).trans rfl, (cg 4).trans rfl, (cg 5).trans rfl⟩ (fun hHeld => ?_)
  clear hK K
  try simp only [Act.put, List.setIfInBounds_toArray, List.set_cons_zero, List.set_cons_succ]
  clear fb cb cg h4
  generalize (((((we.setCell _ _).setCell _ _).setCell _ _).setCell _ _).setCell _ _).setCell _ _ = wf at *
  refine wpAnyH_done (by kernel_rfl) ?_ _
  clear hHeld
  go_wp2
  have r1 := h5.f2.cell
  have r2 := h5.cell
  refine bodyPost_ret (v := .tuple #[.agg #[.int .i64 c1, .int .i64 c2, .int .i64 c3, .int .i64 d4, .int .i64 d5, .int .i64 d6], .agg #[.int .i64 c1, .int .i64 c2, .int .i64 c3, .int .i64 d4, .int .i64 d5, .int .i64 d6]]) (by simp [results, Tryz.results10, go_sem, r1, r2]) rfl ⟨?_, h5.drop.drop.drop⟩
  rw [HX.out.1, HX.out.2.1, HX.out.2.2]
end Go.Proofs.YtnnahljdhdippaaGreatDoor

namespace Go.Proofs.YtnnahljdhdippaaGreatDoor
open Go.RowKit

abbrev cfSh : Sh := .pair (.int .i64) (.pair (.int .i64) (.pair (.int .i64) (.pair (.int .i64) (.pair (.int .i64) (.pair (.int .i64) .unit)))))
theorem cf_of {w : World} {cs : List Value} (h : cfSh.ok w cs) : ∃ c : Tcf, cs = c.cells ∧ (Lit.int .i64 c.k).wf = true ∧ (Lit.int .i64 c.n200).wf = true ∧ (Lit.int .i64 c.n202).wf = true ∧ (Lit.int .i64 c.t200).wf = true ∧ (Lit.int .i64 c.t202).wf = true ∧ (Lit.int .i64 c.t203).wf = true := by
  obtain ⟨_, _, rfl, _, ⟨n1, rfl, w1⟩, _, _, rfl, _, ⟨n2, rfl, w2⟩, _, _, rfl, _, ⟨n3, rfl, w3⟩, _, _, rfl, _, ⟨n4, rfl, w4⟩, _, _, rfl, _, ⟨n5, rfl, w5⟩, _, _, rfl, _, ⟨n6, rfl, w6⟩, h12⟩ := h
  obtain rfl := h12
  exact ⟨⟨n1, n2, n3, n4, n5, n6⟩, rfl, w1, w2, w3, w4, w5, w6⟩
theorem usv_f1 (v0 v1 v2 v3 : Value) (w : World) : (Instr.field 63 (.agg #[v0, v1, v2, v3]) 1).run Tryz.prog w = .ok v1 w := by kernel_rfl
theorem usv_asking (v : Uv) (w : World) : (Instr.field 63 (.agg v.cells.toArray) 1).run Tryz.prog w = .ok (.bool v.asking) w := usv_f1 _ _ _ _ w
set_option maxRecDepth 100000 in
set_option maxHeartbeats 3200000 in
theorem TerminalFails.walk (a0 : Array Value) (a1 : Int) (w : World) (hN : NamesAt w) (hF : FirstAt w) (hL : LinkAt w) (w0 : Sh.ok w cfSh a0.toList) (_w1 : (Lit.int .u64 a1).wf = true) :
    Calls Tryz.prog 4 #[.agg a0, .int .u64 a1] w fun e w' => e = .returned (.bool true) ∧ Below w.heap.size w w' := by
  obtain ⟨c, ha, _⟩ := cf_of w0
  obtain rfl : a0 = c.cells.toArray := by rw [← ha]
  have hO : ∀ w', St w w' (Old w) → NamesAt w' := fun w' h => hN.old h.old0 hN.pos
  have hO2 : ∀ w', St w w' (Old w) → FirstAt w' := fun w' h => hF.old h.old0 hF.pos
  have hO3 : ∀ w', St w w' (Old w) → LinkAt w' := fun w' h => hL.old h.old0 hL.pos
  have h2 := ((St.start w).alloc (.cells c.cells.toArray 23))
  clear w0 ha _w1 hN hF hL
  have hg := fun w0 w R h => l_good c w0 w R h
  obtain ⟨hr, hr2, hr3⟩ := goodC_range c
  have hgg := goodC_good c
  have hn3 : (goodC c).n202 = c.n202 := rfl
  generalize goodC c = g at *
  obtain ⟨M, hM⟩ : ∃ M : Nat, max 1 (min c.n202 32) = (M : Int) := ⟨(max 1 (min c.n202 32)).toNat, by omega⟩
  have hM1 : 1 ≤ M ∧ M ≤ 32 := by omega
  have hs := fail_start g ⟨false, [], a1⟩ M (by rw [hn3]; exact hM) hr2.1 (by omega)
  have hnw := fun v w0 w R h => t_new g v ⟨false, [], a1⟩ hgg w0 w R h
  have f0 := fit_tt_new g ⟨false, [], a1⟩
  have HM := Lib.hid (show max 1 (min c.n202 32) = (M : Int) ∧ 1 ≤ g.t202 ∧ g.t202 ≤ 100 from ⟨hM, hr2⟩)
  generalize newTt g ⟨false, [], a1⟩ = x0 at *
  obtain ⟨X, hX⟩ : ∃ X, x0.ask 0 0 noStr = X := ⟨_, rfl⟩
  have hask := fun t w0 w R hN hF hL h => t_ask t x0 0 0 noStr f0 w0 w R hN hF hL h
  rw [hX] at hs
  simp only [hX] at hask
  obtain ⟨X1, X2⟩ := X
  simp only [] at hs hask
  obtain ⟨hi0, rfl, hs1⟩ := hs
  obtain ⟨c1, c2, c3, c4, c5, c6⟩ := c
  obtain ⟨g1, g2, g3, g4, g5, g6⟩ := g
  simp only [Tcf.cells] at *
  subst hn3
  clear hX hr hr2 hr3 hgg f0 hM
  have d := h2.cell
  go_enter Tryz.func4, Tryz.ntmps4
  go_upto_region 1 with fail
  generalize w.alloc _ = wa at *
  generalize w.heap.size = ga at *
  have hk := hg w wa _ h2
  go_upto_region 2 with (go_at_call 10; refine hk.mono ?_; rintro r wb ⟨rfl, h3⟩)
  have h4 := (h3.alloc (.cells #[.int .i64 g1, .int .i64 g2, .int .i64 g3, .int .i64 g4, .int .i64 g5, .int .i64 g6] TCf)).alloc (.cells #[.int .i64 g1, .int .i64 g2, .int .i64 g3, .int .i64 g4, .int .i64 g5, .int .i64 g6] 27)
  clear hk hg d h2 h3
  go_upto_region 2 with fail
  simp only [World.size_alloc] at *
  generalize (wb.alloc _).alloc _ = wc at *
  generalize wb.heap.size = gh at *
  have h5 := h4.f2.drew
  have e0 : wc.drew.cell? ⟨gh, 0, none⟩ = some (.int .i64 g1) := (h5.cell 0).trans rfl
  have e1 : wc.drew.cell? ⟨gh, 1, none⟩ = some (.int .i64 g2) := (h5.cell 1).trans rfl
  have e2 : wc.drew.cell? ⟨gh, 2, none⟩ = some (.int .i64 g3) := (h5.cell 2).trans rfl
  have e3 : wc.drew.cell? ⟨gh, 3, none⟩ = some (.int .i64 g4) := (h5.cell 3).trans rfl
  have e4 : wc.drew.cell? ⟨gh, 4, none⟩ = some (.int .i64 g5) := (h5.cell 4).trans rfl
  have e5 : wc.drew.cell? ⟨gh, 5, none⟩ = some (.int .i64 g6) := (h5.cell 5).trans rfl
  have hk := dr_new0 a1 w wc.drew _ h5
  refine wp_region_held_drew (S := fun wx => wx.cell? ⟨gh, 0, none⟩ = some (.int .i64 g1) ∧ wx.cell? ⟨gh, 1, none⟩ = some (.int .i64 g2) ∧ wx.cell? ⟨gh, 2, none⟩ = some (.int .i64 g3) ∧ wx.cell? ⟨gh, 3, none⟩ = some (.int .i64 g4) ∧ wx.cell? ⟨gh, 4, none⟩ = some (.int .i64 g5) ∧ wx.cell? ⟨gh, 5, none⟩ = some (.int .i64 g6)) (by kernel_rfl) ⟨e0, e1, e2, e3, e4, e5⟩ (fun hHeld => ?_)
  clear e0 e1 e2 e3 e4 e5 h4 h5
  generalize wc.drew = wd at *
  refine wpAnyH_take (i := 0) (oi := { dst := some 19, op := Op.load 26 (Operand.tmp 5), type := 26, pos := "law.go:287", after := #[], guard := none }) (v := ?_) rfl (by kernel_rfl) (by kernel_rfl) (by kernel_rfl) (fun _ _ _ h => h) (Or.inl ⟨by rfl, ?_⟩) (by assumption) ?_
  rotate_left 1
  · intro w hSw
    try dsimp only at hSw
    go_simp
    try with_reducible rfl
  try simp only [Act.put, List.setIfInBounds_toArray, List.set_cons_zero, List.set_cons_succ]
  refine wpAnyH_take (i := 1) (oi := { dst := some 20, op := Op.move (Operand.tmp 1), type := 24, pos := "law.go:287", after := #[], guard := none }) (v := ?_) rfl (by kernel_rfl) (by kernel_rfl) (by kernel_rfl) (fun _ _ _ h => h) (Or.inl ⟨by rfl, ?_⟩) (by assumption) ?_
  rotate_left 1
  · intro w hSw
    try dsimp only at hSw
    go_simp
    try with_reducible rfl
  try simp only [Act.put, List.setIfInBounds_toArray, List.set_cons_zero, List.set_cons_succ]
  refine wpAnyH_ready (rs := [2]) (by kernel_rfl) (by simp) ?_
  refine AllReadyH.cons (o := { dst := some 21, op := Op.call { callee := Callee.value (Operand.func 12), args := #[Operand.tmp 20, Operand.const (Value.slice none 0 0)], argTypes := #[24, 108] }, type := 34, pos := "law.go:287", after := #[{ on := 1, ground := Ground.data }], guard := none }) rfl (fun K hK => ?_) ?_
  rotate_left 1
  · exact AllReadyH.nil
  go_simp
  go_at_call 12
  refine hk.mono ?_
  rintro r we ⟨p, rfl, h6⟩
  clear hk
  have h7 := h6.f2
  have cg := h7.cell
  have hk := hnw (ptr p) w we _ (h6.dv_some rfl)
  go_simp
  refine hK.out _ _ ⟨(cg 0).trans rfl, (cg 1).trans rfl, (cg 2).trans rfl, (cg 3).trans rfl, (cg 4).trans rfl, (cg 5).trans rfl⟩ (fun hHeld => ?_)
  clear hK K
  try simp only [Act.put, List.setIfInBounds_toArray, List.set_cons_zero, List.set_cons_succ]
  clear cg h6 h7
  refine wpAnyH_ready (rs := [3]) (by kernel_rfl) (by simp) ?_
  refine AllReadyH.cons (o := { dst := some 22, op := Op.call { callee := Callee.value (Operand.func 11), args := #[Operand.tmp 19, Operand.tmp 21], argTypes := #[26, 34] }, type := 32, pos := "law.go:287", after := #[{ on := 0, ground := Ground.data }, { on := 2, ground := Ground.data }, { on := 2, ground := Ground.chain }], guard := none }) rfl (fun K hK => ?_) ?_
  rotate_left 1
  · exact AllReadyH.nil
  go_simp
  go_at_call 11
  refine hk.mono ?_
  rintro r wf ⟨t, rfl, h6⟩
  clear hk hnw
  have cg := h6.f2.cell
  go_simp
  refine hK.out _ _ ⟨(cg 0).trans rfl, (cg 1).trans rfl, (cg 2).trans rfl, (cg 3).trans rfl, (cg 4).trans rfl, (cg 5).trans rfl⟩ (fun hHeld => ?_)
  clear hK K
  try simp only [Act.put, List.setIfInBounds_toArray, List.set_cons_zero, List.set_cons_succ]
  refine wpAnyH_take (i := 4) (oi := { dst := some 18, op := Op.move (Operand.tmp 22), type := 32, pos := "law.go:287", after := #[{ on := 3, ground := Ground.data }], guard := none }) (v := ?_) rfl (by kernel_rfl) (by kernel_rfl) (by kernel_rfl) (fun _ _ _ h => h) (Or.inl ⟨by rfl, ?_⟩) (by assumption) ?_
  rotate_left 1
  · intro w hSw
    try dsimp only at hSw
    go_simp
    try with_reducible rfl
  try simp only [Act.put, List.setIfInBounds_toArray, List.set_cons_zero, List.set_cons_succ]
  refine wpAnyH_take (i := 5) (oi := { dst := some 23, op := Op.extract (Operand.tmp 18) 0, type := 30, pos := "law.go:287", after := #[{ on := 4, ground := Ground.data }], guard := none }) (v := ?_) rfl (by kernel_rfl) (by kernel_rfl) (by kernel_rfl) (fun _ _ _ h => h) (Or.inl ⟨by rfl, ?_⟩) (by assumption) ?_
  rotate_left 1
  · intro w hSw
    try dsimp only at hSw
    go_simp
    try with_reducible rfl
  try simp only [Act.put, List.setIfInBounds_toArray, List.set_cons_zero, List.set_cons_succ]
  refine wpAnyH_take (i := 6) (oi := { dst := some 24, op := Op.extract (Operand.tmp 18) 1, type := 31, pos := "law.go:287", after := #[{ on := 4, ground := Ground.data }, { on := 7, ground := Ground.gcOnly Departure.lateStores }], guard := none }) (v := ?_) rfl (by kernel_rfl) (by kernel_rfl) (by kernel_rfl) (fun _ _ _ h => h) (Or.inl ⟨by rfl, ?_⟩) (by assumption) ?_
  rotate_left 1
  · intro w hSw
    try dsimp only at hSw
    go_simp
    try with_reducible rfl
  try simp only [Act.put, List.setIfInBounds_toArray, List.set_cons_zero, List.set_cons_succ]
  refine wpAnyH_take (i := 7) (oi := { dst := some 7, op := Op.assign (Operand.tmp 23), type := 30, pos := "law.go:287", after := #[{ on := 5, ground := Ground.data }, { on := 3, ground := Ground.chain }, { on := 0, ground := Ground.phase }, { on := 1, ground := Ground.phase }, { on := 2, ground := Ground.phase }, { on := 3, ground := Ground.phase }, { on := 4, ground := Ground.phase }, { on := 5, ground := Ground.phase }, { on := 6, ground := Ground.textOnly Departure.lateStores }], guard := none }) (v := ?_) rfl (by kernel_rfl) (by kernel_rfl) (by kernel_rfl) (fun _ _ _ h => h) (Or.inl ⟨by rfl, ?_⟩) (by assumption) ?_
  rotate_left 1
  · intro w hSw
    try dsimp only at hSw
    go_simp
    try with_reducible rfl
  try simp only [Act.put, List.setIfInBounds_toArray, List.set_cons_zero, List.set_cons_succ]
  refine wpAnyH_take (i := 8) (oi := { dst := some 8, op := Op.assign (Operand.tmp 24), type := 31, pos := "law.go:287", after := #[{ on := 6, ground := Ground.data }, { on := 7, ground := Ground.chain }, { on := 0, ground := Ground.phase }, { on := 1, ground := Ground.phase }, { on := 2, ground := Ground.phase }, { on := 3, ground := Ground.phase }, { on := 4, ground := Ground.phase }, { on := 5, ground := Ground.phase }, { on := 6, ground := Ground.phase }, { on := 7, ground := Ground.phase }], guard := none }) (v := ?_) rfl (by kernel_rfl) (by kernel_rfl) (by kernel_rfl) (fun _ _ _ h => h) (Or.inl ⟨by rfl, ?_⟩) (by assumption) ?_
  rotate_left 1
  · intro w hSw
    try dsimp only at hSw
    go_simp
    try with_reducible rfl
  try simp only [Act.put, List.setIfInBounds_toArray, List.set_cons_zero, List.set_cons_succ]
  refine wpAnyH_done (by kernel_rfl) ?_ _
  clear hHeld cg
  have hk := hask t w wf _ (fun w' h => hO w' h.drop.drop.drop) (fun w' h => hO2 w' h.drop.drop.drop) (fun w' h => hO3 w' h.drop.drop.drop) h6
  obtain ⟨nt, hnt⟩ : ∃ n, X1.told.length = n := ⟨_, rfl⟩
  clear h6 hask
  go_upto_region 4 with (go_at_call 17; refine hk.mono ?_; rintro r wg ⟨sv, tv, rfl, h8⟩; obtain ⟨sa, sc, ta, tc, rfl, rfl⟩ := h8.res_shape hs1 hnt)
  clear hk hs1 hnt
  have h9 := ((h8.drop.drop).alloc (.cells #[.slice sa 1 sc, .slice ta nt tc] TRes)).f2
  clear h8
  generalize wg.alloc _ = wi at *
  generalize wg.heap.size = gy at *
  have hk := tt_wakes w wi _ (fun w' h => hO w' h.drop.drop.drop.drop.drop) (fun w' h => hO2 w' h.drop.drop.drop.drop.drop) (fun w' h => hO3 w' h.drop.drop.drop.drop.drop) h9
  go_wp2_with fail
  refine hk.mono ?_
  rintro r wj ⟨rfl, h10⟩
  clear hk h9
  have d := h10.f2.cell
  have HI0 := Lib.hid hi0
  have HH := Lib.hid h10
  clear hi0 h10
  go_wp2
  go_loopw [11, 12, 43] (fun s11 s12 s43 wr => ∃ (i : Nat) (x : Tt) (n m : Nat) (sa ta : Option Addr) (sc tc : Nat), i < M ∧ s43 = .int .i64 i ∧ s11 = .int .i64 ((i : Int) + 1) ∧ s12 = .int .i64 ((i : Int) * g5) ∧ Hid (FailI ⟨g1, g2, g3, g4, g5, g6⟩ g5 M i x) ∧ Hid (St w wr (TtOff t x * (blk gy (.cells #[.slice sa n sc, .slice ta m tc] TRes (0, 0)) * (blk gh (.cells #[.int .i64 g1, .int .i64 g2, .int .i64 g3, .int .i64 g4, .int .i64 g5, .int .i64 g6] TCf (0, 0)) * (blk (gh + 1) (.cells #[.int .i64 g1, .int .i64 g2, .int .i64 g3, .int .i64 g4, .int .i64 g5, .int .i64 g6] 27 (0, 0)) * (blk ga (.cells #[.int .i64 c1, .int .i64 c2, .int .i64 g3, .int .i64 c4, .int .i64 c5, .int .i64 c6] 23 (0, 0)) * Old w))))))) (fun _ _ s43 _ => 33 - (intOf s43).toNat)
  case atStart => exact ⟨0, X1, 1, nt, sa, ta, sc, tc, by omega, rfl, rfl, by simp, HI0, HH⟩
  case round =>
    clear HH HI0 d
    obtain ⟨i, x, n, m, sa, ta, sc, tc, hi, rfl, rfl, rfl, HI, H⟩ := hrel
    have hT : 1 ≤ g5 ∧ g5 ≤ 100 := HM.out.2
    obtain ⟨nv, hnv⟩ : ∃ nv : Int, (i : Int) * g5 = nv := ⟨_, rfl⟩
    have hnv2 : ((i : Int) + 1) * g5 = nv + g5 := by rw [Int.add_mul, hnv, Int.one_mul]
    have n0 : 0 ≤ nv := by rw [← hnv]; exact Int.mul_nonneg (by omega) (by omega)
    have n1 : nv ≤ 3200 := by rw [← hnv]; exact Int.le_trans (Int.mul_le_mul (show (i : Int) ≤ 32 by omega) hT.2 (by omega) (by omega)) (by decide)
    rw [hnv]
    have ew : IntKind.i64.wrap (nv + g5) = nv + g5 := by rw [IntKind.wrap_i64]; omega
    have hil : (i : Int) < 33 := by omega
    have d := H.out.f3.cell
    have fi := HI.out.fit
    have hk := t_tick t x (((i : Int) + 1) * g5) fi w wr _ (fun w' h => hO w' h.drop.drop.drop.drop) (fun w' h => hO2 w' h.drop.drop.drop.drop) (fun w' h => hO3 w' h.drop.drop.drop.drop) H.out
    have fy := fit_tick fi (((i : Int) + 1) * g5)
    by_cases hl : i + 1 = M
    · obtain ⟨q1, q2, q3, q4, q5⟩ := fail_last HI.out hl hT.1 (by omega)
      rw [hnv2] at hk q1 q2 q3 q4 q5 fy
      rw [q1] at hk
      generalize (x.tick (nv + g5)).1 = Y at *
      have l1 : Y.sent.length = 0 := by rw [q2]; rfl
      have l2 : Y.told.length = 1 := by rw [q3]; rfl
      have gy0 := H.out.f2.free
      have eq1 : (((i : Int) + 1) == max 1 (min g3 32)) = true := by rw [HM.out.1]; simp; omega
      have ew2 : IntKind.i64.wrap ((i : Int) + 1 + 0) = (i : Int) + 1 := by rw [IntKind.wrap_i64]; omega
      clear H HI hnv hnv2 fi q1 q2
      go_upto_region 11 with (go_at_call 27; refine hk.mono ?_; rintro r wb ⟨sv, tv, rfl, h5⟩; obtain ⟨sb, sd, tb, td, rfl, rfl⟩ := h5.res_shape l1 l2; have cy := h5.f4.cell; have fy2 := h5.f4.free)
      clear hk l1 l2
      have hz := h5.eq (show _ = LAt TTold 2 tolC (.slice tb 1 td) Y.told * (blk gy (.cells #[.slice sa n sc, .slice ta m tc] TRes (0, 0)) * (LAt 9 1 encS (.slice sb 0 sd) Y.sent * (TtOff t Y * (blk gh (.cells #[.int .i64 g1, .int .i64 g2, .int .i64 g3, .int .i64 g4, .int .i64 g5, .int .i64 g6] TCf (0, 0)) * (blk (gh + 1) (.cells #[.int .i64 g1, .int .i64 g2, .int .i64 g3, .int .i64 g4, .int .i64 g5, .int .i64 g6] 27 (0, 0)) * (blk ga (.cells #[.int .i64 c1, .int .i64 c2, .int .i64 g3, .int .i64 c4, .int .i64 c5, .int .i64 c6] 23 (0, 0)) * Old w)))))) by ac_rfl)
      have hy := (hz.f2.set 0 (.slice sb 0 sd)).set 1 (.slice tb 1 td)
      generalize (wb.setCell _ _).setCell _ _ = wc at *
      rcases hy.f2.l_cells tyTold.len with ⟨h0, _⟩ | ⟨g7, o7, c7, hv, _, _, hcell⟩
      · rw [q3] at h0; cases h0
      simp only [Value.slice.injEq] at hv
      obtain ⟨rfl, hq, rfl⟩ := hv
      clear hq
      have z0 : wc.cell? ⟨g7, o7, none⟩ = some (.int .i64 3) := by
        have := hcell 0 (3, noStr) (by rw [q3]; rfl) 0 _ rfl
        simpa using this
      have dy := hy.cell
      have d := hy.drop.drop.drop.drop.drop.drop.cell
      have ht := hy.f4
      have e1 := env_state Y.e
      have e2 := usv_asking Y.u.v
      rw [q4] at e1
      rw [q5] at e2
      have hv := t_link t Y fy.e.ok.b.fl w wc _ ht
      clear hcell q3 q4 q5 h5 hz cy fy2
      generalize Y.e.view = V at *
      go_wp2_with fail
      refine hv.mono ?_
      rintro r wd ⟨rfl, ha⟩
      have hu := t_user t Y w wd _ ha
      generalize Y.u.v.cells.toArray = Vu at *
      clear hv ht
      go_wp2_with fail
      refine hu.mono ?_
      rintro r we ⟨rfl, hb⟩
      clear hu ha
      go_wp2
      go_ret
      exact ⟨rfl, hb.drop.drop.drop.drop.drop.drop.drop.old0⟩
    · obtain ⟨q1, q2, q3, q4⟩ := fail_next HI.out (by omega) hT.1 (by omega) rfl
      rw [hnv2] at hk q1 q2 q3 q4 fy
      rw [q1] at hk
      generalize (x.tick (nv + g5)).1 = Y at *
      have l2 : Y.told.length = 0 := by rw [q3]; rfl
      have gy0 := H.out.f2.free
      have ew2 : IntKind.i64.wrap ((i : Int) + 1 + 1) = (i : Int) + 1 + 1 := by rw [IntKind.wrap_i64]; omega
      have HY := Lib.hid q4
      have HV := Lib.hid hnv2
      clear H HI hnv hnv2 fi q1 q3 q4 fy
      go_upto_region 11 with (go_at_call 27; refine hk.mono ?_; rintro r wb ⟨sv, tv, rfl, h5⟩; obtain ⟨sb, sd, tb, td, rfl, rfl⟩ := h5.res_shape q2 l2; have cy := h5.f4.cell; have fy2 := h5.f4.free)
      clear hk q2 l2
      have hy := ((h5.drop.drop.f2.set 0 (.slice sb 1 sd)).set 1 (.slice tb 0 td)).f2
      generalize (wb.setCell _ _).setCell _ _ = wc at *
      have dy := hy.f2.cell
      have HH := Lib.hid hy
      clear h5 cy fy2 hy d gy0
      go_wp2
      go_roundw
      case rel =>
        refine ⟨i + 1, Y, 1, 0, sb, tb, sd, td, by omega, by go_num, by go_num, ?_, HY, HH⟩
        show Value.int .i64 (nv + g5) = Value.int .i64 (((i + 1 : Nat) : Int) * g5)
        rw [← HV.out]
        rfl
      case measure => simp [intOf]; omega
end Go.Proofs.YtnnahljdhdippaaGreatDoor
