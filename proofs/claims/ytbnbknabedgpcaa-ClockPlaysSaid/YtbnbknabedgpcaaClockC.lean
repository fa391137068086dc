/- The clock: the order of timers. -/
import Derived.Test.YtbnbknabedgpcaaClockB
import Derived.Test.YtbnbknabedgpcaaCmp64
import Derived.Test.YtbnbknabedgpcaaSort
namespace Go.Proofs.Ytbnbknabedgpcaa
open Go.RowKit Go.Sort

/-- till when -/
def till (l : Tms) (k : Key) : Int := (mlook l k).getD 0
def cmpK (l : Tms) (x y : Key) : Int := orv [cmpv (till l x) (till l y), cmpv x.1 y.1, cmpv x.2 y.2]

set_option maxRecDepth 100000 in
set_option maxHeartbeats 1000000 in
theorem due_cmp (bx c b : Nat) (l : Tms) (x y : Key) (hx : okK x) (hy : okK y) (w0 W : World) (R : HP)
    (h : St w0 W (blk bx (.cells #[ptrC c] 37 (0, 0)) * (blk c (.cells #[.map (some b)] 107 (0, 0)) * (MAt kKey vInt b l * R)))) :
    Calls Try.prog 49 #[.agg #[.int .i64 x.1, .int .i64 x.2], .agg #[.int .i64 y.1, .int .i64 y.2], ptrC bx] W fun e w' => e = .returned (.int .i64 (cmpK l x y)) ∧ ∃ q os, w' = grow (W.drewN q) os := by
  obtain ⟨x1, x2⟩ := x
  obtain ⟨y1, y2⟩ := y
  obtain ⟨tx, htx⟩ : ∃ t, till l (x1, x2) = t := ⟨_, rfl⟩
  obtain ⟨ty, hty⟩ : ∃ t, till l (y1, y2) = t := ⟨_, rfl⟩
  unfold cmpK
  rw [htx, hty]
  simp only []
  have h2 := (h.alloc (.cells #[.int .i64 x1, .int .i64 x2] 43)).alloc (.cells #[.int .i64 y1, .int .i64 y2] 43)
  have hw : ((W.alloc (.cells #[.int .i64 x1, .int .i64 x2] 43)).alloc (.cells #[.int .i64 y1, .int .i64 y2] 43)) = grow W #[.cells #[.int .i64 x1, .int .i64 x2] 43, .cells #[.int .i64 y1, .int .i64 y2] 43] := by
    rw [alloc_eq_grow, alloc_eq_grow, grow_grow]; rfl
  simp only [World.size_alloc] at h2
  have HW := Lib.hid hw
  clear hw
  go_enter Try.func49, Try.ntmps49
  go_upto_region 1 with fail
  have HW2 := Lib.hid (show (W.alloc (.cells #[.int .i64 x1, .int .i64 x2] 43)).alloc (.cells #[.int .i64 y1, .int .i64 y2] 43) = _ from HW.out)
  clear HW
  generalize (W.alloc (.cells #[.int .i64 x1, .int .i64 x2] 43)).alloc (.cells #[.int .i64 y1, .int .i64 y2] 43) = W2 at *
  have cy := h2.cell
  have cx := h2.f2.cell
  have cb := h2.f3.cell
  have cc := h2.f4.cell
  have lx := h2.drew.f5.till (x1, x2) hx
  have ly := h2.drew.f5.till (y1, y2) hy
  simp only [] at lx ly
  rw [show (mlook l (x1, x2)).getD 0 = tx from htx] at lx
  rw [show (mlook l (y1, y2)).getD 0 = ty from hty] at ly
  clear htx hty h2 h
  refine wp_region_still_tail 23 (by kernel_rfl) (by kernel_rfl) ?_
  simp only [List.take_succ_cons, List.take_zero, List.drop_succ_cons, List.drop_zero]
  repeat still_step
  still_call (cmp_i64 tx ty _)
  repeat still_step
  still_call (cmp_int x1 y1 _)
  repeat still_step
  still_call (cmp_int x2 y2 _)
  repeat still_step
  refine wpStill_nil ?_
  change wpList _ _ _ _ _ W2.drew
  have hor := cmp_or [cmpv tx ty, cmpv x1 y1, cmpv x2 y2] W2.drew.heap.size 0 3 (W2.drew.alloc (.cells #[.int .i64 (cmpv tx ty), .int .i64 (cmpv x1 y1), .int .i64 (cmpv x2 y2)] 3)) (by simp) (fun i x hi => by
    rw [Nat.zero_add]
    refine new_cells W2.drew [.int .i64 (cmpv tx ty), .int .i64 (cmpv x1 y1), .int .i64 (cmpv x2 y2)] _ _ rfl i _ ?_
    match i, hi with
    | 0, hi => simpa using hi
    | 1, hi => simpa using hi
    | 2, hi => simpa using hi)
  clear cx cy cb cc lx ly
  go_wp2_with fail
  refine hor.mono ?_
  rintro e w' ⟨rfl, rfl⟩
  go_wp2
  go_ret
  refine ⟨rfl, 1, #[.cells #[.int .i64 x1, .int .i64 x2] 43, .cells #[.int .i64 y1, .int .i64 y2] 43, .cells #[.int .i64 (cmpv tx ty), .int .i64 (cmpv x1 y1), .int .i64 (cmpv x2 y2)] 3], ?_⟩
  rw [HW2.out, alloc_eq_grow]
  show grow (grow W.drew _) _ = _
  rw [grow_grow]
  rfl

/-- ahead: by time, owner, timer -/
def aheadK (l : Tms) (x y : Key) : Prop := till l x < till l y ∨ (till l x = till l y ∧ (x.1 < y.1 ∨ (x.1 = y.1 ∧ x.2 < y.2)))
theorem cmpv_lt (a b : Int) : cmpv a b < 0 ↔ a < b := by unfold cmpv; split <;> (try split) <;> omega
theorem cmpv_eq (a b : Int) : cmpv a b = 0 ↔ a = b := by unfold cmpv; split <;> (try split) <;> omega
theorem ltOf_cmpK (l : Tms) (x y : Key) : ltOf (cmpK l) x y = true ↔ aheadK l x y := by
  unfold ltOf cmpK orv aheadK
  have h1 := cmpv_lt (till l x) (till l y)
  have e1 := cmpv_eq (till l x) (till l y)
  have h2 := cmpv_lt x.1 y.1
  have e2 := cmpv_eq x.1 y.1
  have h3 := cmpv_lt x.2 y.2
  generalize cmpv (till l x) (till l y) = a at *
  generalize cmpv x.1 y.1 = b at *
  generalize cmpv x.2 y.2 = c at *
  by_cases ha : a = 0
  · by_cases hb : b = 0
    · by_cases hc : c = 0
      · simp [ha, hb, hc]; omega
      · simp [ha, hb, hc]; omega
    · simp [ha, hb]; omega
  · simp [ha]; omega
theorem swoK (l : Tms) : SWO (ltOf (cmpK l)) where
  irrefl x := by
    rw [Bool.eq_false_iff]
    intro h
    have := (ltOf_cmpK l x x).1 h
    unfold aheadK at this
    omega
  trans x y z h1 h2 := by
    have a := (ltOf_cmpK l x y).1 h1
    have b := (ltOf_cmpK l y z).1 h2
    refine (ltOf_cmpK l x z).2 ?_
    unfold aheadK at *
    omega
  ntrans x y z h1 h2 := by
    rw [Bool.eq_false_iff] at *
    intro h
    have a := mt (ltOf_cmpK l x y).2 h1
    have b := mt (ltOf_cmpK l y z).2 h2
    have c := (ltOf_cmpK l x z).1 h
    unfold aheadK at *
    omega
theorem totalK (l : Tms) (x y : Key) (h1 : ltOf (cmpK l) x y = false) (h2 : ltOf (cmpK l) y x = false) : x = y := by
  rw [Bool.eq_false_iff] at *
  have a := mt (ltOf_cmpK l x y).2 h1
  have b := mt (ltOf_cmpK l y x).2 h2
  unfold aheadK at *
  obtain ⟨x1, x2⟩ := x
  obtain ⟨y1, y2⟩ := y
  simp only [Prod.mk.injEq] at *
  omega

/-- sorted by time, owner, timer -/
def sortK (l : Tms) (ks : List Key) : List Key := ks.mergeSort fun x y => !(ltOf (cmpK l) y x)
theorem sortK_perm (l : Tms) (ks : List Key) : (sortK l ks).Perm ks := List.mergeSort_perm _ _
theorem sortK_sorted (l : Tms) (ks : List Key) : (sortK l ks).Pairwise fun x y => ¬ aheadK l y x := by
  have h := List.pairwise_mergeSort (le := fun x y => !(ltOf (cmpK l) y x)) (fun a b c h1 h2 => by
      simp only [Bool.not_eq_true'] at *
      exact (swoK l).ntrans _ _ _ h2 h1) (fun a b => by
      simp only [Bool.or_eq_true, Bool.not_eq_true']
      cases h : ltOf (cmpK l) b a
      · exact .inl rfl
      · right
        cases h' : ltOf (cmpK l) a b
        · rfl
        · have := (swoK l).trans _ _ _ h h'
          rw [(swoK l).irrefl] at this
          cases this) ks
  refine h.imp fun {x y} hxy ha => ?_
  rw [(ltOf_cmpK l y x).2 ha] at hxy
  cases hxy
end Go.Proofs.Ytbnbknabedgpcaa
