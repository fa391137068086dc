/- The mux: its sorts: links by slices.SortFunc; ints by slices.Sort, slices.Compact. -/
import Derived.Test.YtkcclijckpbobaaMux
import Derived.Test.YtkcclijckpbobaaCmp
import Derived.Test.YtkcclijckpbobaaSort
import Derived.Test.YtkcclijckpbobaaSortLinks
import Derived.Test.YtkcclijckpbobaaLaySortZ
import Derived.Test.YtkcclijckpbobaaLayCompact
import Derived.StillTailTactics
import Derived.Shelf.SortM.Plain
import Derived.Shelf.SortM.SortNone
import Derived.Shelf.Slices.CompactI
namespace Go.Proofs.Ytkcclijckpbobaa
open Go.RowKit Go.Sort Go.Shelf

abbrev intL (n : Int) : List Value := [.int .i64 n]
theorem flat_intL : ∀ l : List Int, l.flatMap intL = l.map (Value.int .i64)
  | [] => rfl
  | a :: l => by rw [List.flatMap_cons, flat_intL l]; rfl
abbrev sortZ (l : List Int) : List Int := l.mergeSort fun x y => decide (x ≤ y)
theorem sortZ_mem (l : List Int) (a : Int) : a ∈ sortZ l ↔ a ∈ l := (List.mergeSort_perm _ _).mem_iff
theorem sortZ_len (l : List Int) : (sortZ l).length = l.length := (List.mergeSort_perm _ _).length_eq
theorem sortZ_le (l : List Int) : (sortZ l).Pairwise (· ≤ ·) := by
  have := List.pairwise_mergeSort (le := fun x y : Int => decide (x ≤ y)) (fun a b c h1 h2 => by simp at *; omega) (fun a b => by simp; omega) l
  exact this.imp fun h => by simpa using h

section
variable {w0 w : World} {R : HP} {E : TypeId} {l : List Int} {g off cap n : Nat}
theorem St.z_holds (h : St w0 w (LAt E 1 intL (.slice (some ⟨g, off, none⟩) n cap) l * R)) (hl : l ≠ []) : n = l.length ∧ Holds (Value.int .i64) w g off l.toArray ∧ g < w.heap.size ∧ n ≤ cap := by
  rcases h.row with ⟨a0, hv, hn, _⟩ | ⟨g', off', cap', cur, hv, h1, h2, h3, h4, hs⟩
  · exact absurd (List.eq_nil_of_length_eq_zero hn) hl
  · simp only [Value.slice.injEq, Option.some.injEq, Addr.mk.injEq] at hv
    obtain ⟨⟨rfl, rfl, _⟩, rfl, rfl⟩ := hv
    refine ⟨rfl, ?_, hs.lt, h1⟩
    rw [flat_intL] at h4
    intro j hj
    have hj' : j < l.length := by simpa using hj
    refine ⟨?_, hs.free _⟩
    rw [hs.cell, h4 j (by omega)]
    simp [hj', getElem!_pos l.toArray j hj]
theorem St.z_put (h : St w0 w (LAt E 1 intL (.slice (some ⟨g, off, none⟩) n cap) l * R)) (hl : l ≠ []) {ys : List Int} (hy : ys.length = l.length) (k : Nat) (hk : k ≤ l.length) (m : Nat) (os : Array Obj) :
    St w0 (grow (putRow (Value.int .i64) (Sort.ahead w m) g off ys.toArray) os) (LAt E 1 intL (.slice (some ⟨g, off, none⟩) k cap) (ys.take k) * R) := by
  rcases h.row with ⟨a0, hv, hn, _⟩ | ⟨g', off', cap', cur, hv, h1, h2, h3, h4, hs⟩
  · exact absurd (List.eq_nil_of_length_eq_zero hn) hl
  · simp only [Value.slice.injEq, Option.some.injEq, Addr.mk.injEq] at hv
    obtain ⟨⟨rfl, rfl, _⟩, rfl, rfl⟩ := hv
    have hb := hs.heap
    have hlt := hs.lt
    have hheap : (grow (putRow (Value.int .i64) (Sort.ahead w m) g off ys.toArray) os).heap = w.heap.modify g (onCells (putCells (Value.int .i64) off ys.toArray)) ++ os := rfl
    have hs2 : St w0 (grow (putRow (Value.int .i64) (Sort.ahead w m) g off ys.toArray) os) (blk g (.cells (putCells (Value.int .i64) off ys.toArray cur) E (0, 0)) * R) := by
      refine hs.swap rfl rfl rfl ?_ ?_
      · rw [hheap, Array.getElem?_append_left (by simpa using hlt), Array.getElem?_modify, if_pos rfl, hb]
        rfl
      · intro j hj hjl
        rw [hheap, Array.getElem?_append_left (by simpa using hjl), Array.getElem?_modify, if_neg (Ne.symm hj)]
    have hlen : (ys.take k).length = k := by simp; omega
    have := St.row_mk (xs := (ys.take k).flatMap intL) (n := k) (sz := 1) (off := off) (cap := cap) hs2 (by rw [flat_intL, List.length_map, hlen, Nat.mul_one]) (by omega) h2 (by simpa [putCells] using h3) (fun j hj => ?_)
    · unfold LAt
      rw [hlen]
      exact this
    · have hj' : j < k := by omega
      have hc : off + j < cur.size := by omega
      have hjy : j < ys.length := by omega
      simp only [putCells, Array.getElem?_mapIdx, Array.getElem?_eq_getElem hc, Option.map_some, List.size_toArray]
      rw [if_pos ⟨by omega, by omega⟩, Nat.add_sub_cancel_left, flat_intL, List.getElem?_map, List.getElem?_take_of_lt hj', List.getElem?_eq_getElem hjy, getElem!_pos ys.toArray j (by simpa using hjy)]
      simp
end

theorem tyZ : ETy Try.prog 35 3 1 8 intL :=
  ⟨Try.underlying35, ⟨.int .i64 0, by kernel_rfl, rfl⟩, fun _ => rfl, fun b u hu => by simp [intL] at hu; rcases hu with rfl; rfl, by decide, by decide⟩
theorem z_sort (v : Value) (l : List Int) (hl : l.length ≤ 1000000) (w0 w : World) (R : HP) (h : St w0 w (LAt 3 1 intL v l * R)) :
    Calls Try.prog 26 #[v] w fun e w' => e = .returned (.tuple #[]) ∧ St w0 w' (LAt 3 1 intL v (sortZ l) * R) := by
  by_cases hne : l = []
  · subst hne
    obtain ⟨a, cap, rfl, _, _⟩ := h.l_shape
    refine Calls.mono (AnyM.slices_Sort_int_none laySortZ a cap w) ?_
    rintro e w' ⟨rfl, rfl⟩
    exact ⟨rfl, by simpa [sortZ] using h⟩
  · rcases h.l_cells tyZ.len with ⟨rfl, _⟩ | ⟨g, off, cap, rfl, _, _, _⟩
    · exact absurd rfl hne
    obtain ⟨_, hH, hg, _⟩ := h.z_holds hne
    refine Calls.mono (AnyM.slices_Sort_int laySortZ g off cap l w hH hg (by omega)) ?_
    rintro e w' ⟨rfl, n, os, rfl⟩
    have h2 := h.z_put hne (sortZ_len l) l.length (Nat.le_refl _) n os
    rw [List.take_of_length_le (by rw [sortZ_len]; exact Nat.le_refl _)] at h2
    exact ⟨rfl, h2⟩
theorem compact_len (l : List Int) : (Lib.compact l).length ≤ l.length := by
  unfold Lib.compact Lib.compactUpTo
  rw [List.length_map]
  exact Nat.le_trans (List.length_filter_le _ _) (by simp)
theorem z_compact (v : Value) (l : List Int) (hl : l.length ≤ 1000000) (w0 w : World) (R : HP) (h : St w0 w (LAt 3 1 intL v l * R)) :
    Calls Try.prog 27 #[v] w fun e w' => ∃ v', e = .returned v' ∧ St w0 w' (LAt 3 1 intL v' (Lib.compact l) * R) := by
  by_cases hne : l = []
  · subst hne
    obtain ⟨a, cap, rfl, _, _⟩ := h.l_shape
    refine Calls.mono (Any.slices_Compact_int_empty layCompact a cap w) ?_
    rintro e w' ⟨rfl, rfl⟩
    exact ⟨_, rfl, by simpa [Lib.compact, Lib.compactUpTo] using h⟩
  · rcases h.l_cells tyZ.len with ⟨rfl, _⟩ | ⟨g, off, cap, rfl, _, _, _⟩
    · exact absurd rfl hne
    obtain ⟨_, hH, hg, hcap⟩ := h.z_holds hne
    refine Calls.mono (Any.slices_Compact_int layCompact g off cap l w hH (by omega) hcap) ?_
    rintro e w' ⟨rfl, q, rfl⟩
    have hcl := compact_len l
    have h2 := h.z_put hne (ys := Lib.compact l ++ List.replicate (l.length - (Lib.compact l).length) 0) (by simp; omega) (Lib.compact l).length hcl q #[]
    rw [List.take_left] at h2
    exact ⟨_, rfl, h2⟩

/-! links -/
def cmpL (x y : Lk) : Int := orv [cmpv x.1 y.1, cmpv x.2 y.2]
set_option maxRecDepth 100000 in
set_option maxHeartbeats 1000000 in
theorem link_cmp (x y : Lk) (w0 W : World) (R : HP) (h : St w0 W R) :
    Calls Try.prog 23 #[.agg #[.int .i64 x.1, .int .i64 x.2], .agg #[.int .i64 y.1, .int .i64 y.2]] W fun e w' => e = .returned (.int .i64 (cmpL x y)) ∧ ∃ q os, w' = grow (W.drewN q) os := by
  obtain ⟨x1, x2⟩ := x
  obtain ⟨y1, y2⟩ := y
  unfold cmpL
  simp only []
  have h2 := (h.alloc (.cells #[.int .i64 x1, .int .i64 x2] 38)).alloc (.cells #[.int .i64 y1, .int .i64 y2] 38)
  have hw : ((W.alloc (.cells #[.int .i64 x1, .int .i64 x2] 38)).alloc (.cells #[.int .i64 y1, .int .i64 y2] 38)) = grow W #[.cells #[.int .i64 x1, .int .i64 x2] 38, .cells #[.int .i64 y1, .int .i64 y2] 38] := by
    rw [alloc_eq_grow, alloc_eq_grow, grow_grow]; rfl
  simp only [World.size_alloc] at h2
  have HW := Lib.hid hw
  clear hw
  go_enter Try.func23, Try.ntmps23
  go_upto_region 1 with fail
  have HW2 := Lib.hid (show (W.alloc (.cells #[.int .i64 x1, .int .i64 x2] 38)).alloc (.cells #[.int .i64 y1, .int .i64 y2] 38) = _ from HW.out)
  clear HW
  generalize (W.alloc (.cells #[.int .i64 x1, .int .i64 x2] 38)).alloc (.cells #[.int .i64 y1, .int .i64 y2] 38) = W2 at *
  have cy := h2.cell
  have cx := h2.f2.cell
  clear h2 h
  refine wp_region_still_tail 10 (by kernel_rfl) (by kernel_rfl) ?_
  simp only [List.take_succ_cons, List.take_zero, List.drop_succ_cons, List.drop_zero]
  repeat still_step
  still_call (cmp_int x1 y1 _)
  repeat still_step
  still_call (cmp_int x2 y2 _)
  repeat still_step
  refine wpStill_nil ?_
  change wpList _ _ _ _ _ W2.drew
  have hor := cmp_or [cmpv x1 y1, cmpv x2 y2] W2.drew.heap.size 0 2 (W2.drew.alloc (.cells #[.int .i64 (cmpv x1 y1), .int .i64 (cmpv x2 y2)] 3)) (by simp) (fun i x hi => by
    rw [Nat.zero_add]
    refine new_cells W2.drew [.int .i64 (cmpv x1 y1), .int .i64 (cmpv x2 y2)] _ _ rfl i _ ?_
    match i, hi with
    | 0, hi => simpa using hi
    | 1, hi => simpa using hi)
  clear cx cy
  go_wp2_with fail
  refine hor.mono ?_
  rintro e w' ⟨rfl, rfl⟩
  go_wp2
  go_ret
  refine ⟨rfl, 1, #[.cells #[.int .i64 x1, .int .i64 x2] 38, .cells #[.int .i64 y1, .int .i64 y2] 38, .cells #[.int .i64 (cmpv x1 y1), .int .i64 (cmpv x2 y2)] 3], ?_⟩
  rw [HW2.out, alloc_eq_grow]
  show grow (grow W.drew _) _ = _
  rw [grow_grow]
  rfl

theorem cmpv_ltL (a b : Int) : cmpv a b < 0 ↔ a < b := by unfold cmpv; split <;> (try split) <;> omega
theorem cmpv_eqL (a b : Int) : cmpv a b = 0 ↔ a = b := by unfold cmpv; split <;> (try split) <;> omega
theorem ltOf_cmpL (x y : Lk) : ltOf cmpL x y = true ↔ aheadL x y := by
  unfold ltOf cmpL orv aheadL
  have h1 := cmpv_ltL x.1 y.1
  have e1 := cmpv_eqL x.1 y.1
  have h2 := cmpv_ltL x.2 y.2
  generalize cmpv x.1 y.1 = a at *
  generalize cmpv x.2 y.2 = b at *
  by_cases ha : a = 0
  · by_cases hb : b = 0
    · simp [ha, hb]; omega
    · simp [ha, hb]; omega
  · simp [ha]; omega
theorem swoL : SWO (ltOf cmpL) where
  irrefl x := by
    rw [Bool.eq_false_iff]
    intro h
    exact aheadL_irr _ ((ltOf_cmpL x x).1 h)
  trans x y z h1 h2 := (ltOf_cmpL x z).2 (aheadL_trans ((ltOf_cmpL x y).1 h1) ((ltOf_cmpL y z).1 h2))
  ntrans x y z h1 h2 := by
    rw [Bool.eq_false_iff] at *
    intro h
    have a := mt (ltOf_cmpL x y).2 h1
    have b := mt (ltOf_cmpL y z).2 h2
    have c := (ltOf_cmpL x z).1 h
    unfold aheadL at *
    omega
theorem totalL (x y : Lk) (h1 : ltOf cmpL x y = false) (h2 : ltOf cmpL y x = false) : x = y := by
  rw [Bool.eq_false_iff] at *
  have a := mt (ltOf_cmpL x y).2 h1
  have b := mt (ltOf_cmpL y x).2 h2
  unfold aheadL at *
  obtain ⟨x1, x2⟩ := x
  obtain ⟨y1, y2⟩ := y
  simp only [Prod.mk.injEq] at *
  omega
def sortL (ks : List Lk) : List Lk := ks.mergeSort fun x y => !(ltOf cmpL y x)
theorem sortL_perm (ks : List Lk) : (sortL ks).Perm ks := List.mergeSort_perm _ _
theorem sortL_strict {ks : List Lk} (hn : ks.Nodup) : (sortL ks).Pairwise aheadL := by
  have h := List.pairwise_mergeSort (le := fun x y => !(ltOf cmpL y x)) (fun a b c h1 h2 => by
      simp only [Bool.not_eq_true'] at *
      exact swoL.ntrans _ _ _ h2 h1) (fun a b => by
      simp only [Bool.or_eq_true, Bool.not_eq_true']
      cases h : ltOf cmpL b a
      · exact .inl rfl
      · right
        cases h' : ltOf cmpL a b
        · rfl
        · have := swoL.trans _ _ _ h h'
          rw [swoL.irrefl] at this
          cases this) ks
  have hd : (sortL ks).Nodup := (sortL_perm ks).nodup_iff.2 hn
  refine (h.and hd).imp fun {x y} hxy => ?_
  obtain ⟨h1, h2⟩ := hxy
  by_cases ha : aheadL x y
  · exact ha
  · have := aheadL_tri ha h2
    rw [(ltOf_cmpL y x).2 this] at h1
    cases h1

/-- links that may be keys -/
abbrev LkOk := { k : Lk // okL k }
theorem okZeroL : okL (0, 0) := ⟨by decide, by decide⟩
instance : Inhabited LkOk := ⟨⟨(0, 0), okZeroL⟩⟩
def lkC' (k : LkOk) : List Value := lkC k.1
theorem flat_okL (l : List LkOk) : l.flatMap lkC' = (l.map (·.1)).flatMap lkC := by
  induction l with
  | nil => rfl
  | cons k l ih => simp [lkC', ih]
theorem LAt_okL (v : Value) (l : List LkOk) : LAt 38 2 lkC' v l = LAt 38 2 lkC v (l.map (·.1)) := by
  unfold LAt
  rw [flat_okL, List.length_map]
theorem tyLk : ETy Try.prog 30 38 2 16 lkC :=
  ⟨Try.underlying30, ⟨.agg #[.int .i64 0, .int .i64 0], by kernel_rfl, rfl⟩, fun _ => rfl, fun b u hu => by simp [lkC] at hu; rcases hu with rfl | rfl <;> rfl, by decide, by decide⟩

set_option maxHeartbeats 1000000 in
theorem link_sort (v : Value) (ks : List Lk) (hok : ∀ k ∈ ks, okL k) (hlen : ks.length ≤ 1000000) (w0 w : World) (R : HP)
    (h : St w0 w (LAt 38 2 lkC v ks * R)) :
    Calls Try.prog 22 #[v, .func (.func 23) #[] #[]] w fun e w' => e = .returned (.tuple #[]) ∧ St w0 w' (LAt 38 2 lkC v (sortL ks) * R) := by
  rcases h.l_cells tyLk.len with ⟨rfl, a, rfl⟩ | ⟨g, off, cap, rfl, _, _, _⟩
  · have := AnyF.slices_SortFunc_none (P := Try.prog) (ρ := sortLink_ren) { sortLink with } a 0 (.func (.func 23) #[] #[]) w
    refine Calls.mono this ?_
    rintro e w' ⟨rfl, rfl⟩
    exact ⟨rfl, by simpa [sortL] using h⟩
  · by_cases hne : ks = []
    · subst hne
      have := AnyF.slices_SortFunc_none (P := Try.prog) (ρ := sortLink_ren) { sortLink with } (some ⟨g, off, none⟩) cap (.func (.func 23) #[] #[]) w
      refine Calls.mono this ?_
      rintro e w' ⟨rfl, rfl⟩
      exact ⟨rfl, by simpa [sortL] using h⟩
    obtain ⟨ks', rfl⟩ : ∃ ks' : List LkOk, ks = ks'.map (·.1) := ⟨ks.attachWith okL hok, by simp [List.attachWith, List.map_pmap]⟩
    rw [← LAt_okL] at h
    have hne' : ks' ≠ [] := fun e => hne (by rw [e]; rfl)
    rw [List.length_map] at h hlen ⊢
    obtain ⟨_, hH, hg⟩ := h.l_holds (fun _ => rfl) (by decide) hne'
    have eg : ∀ args w, (callFunc 23 args).run Try.prog w = .ok (.enter 23 args) w := enters_of Try.func23 (by kernel_rfl) rfl
    have hcmp : CmpLays Try.prog 23 #[] lkC' 2 (fun x y : LkOk => cmpL x.1 y.1) g off ks'.toArray.size w := by
      intro m os dk hd x y
      have h2 := h.l_sort (l' := dk.toList) (fun _ => rfl) (by decide) hne' (by simpa using hd) m os
      exact link_cmp x.1 y.1 w0 _ _ h2
    have hsw : SWO (ltOf fun x y : LkOk => cmpL x.1 y.1) := ⟨fun x => swoL.irrefl x.1, fun x y z => swoL.trans x.1 y.1 z.1, fun x y z => swoL.ntrans x.1 y.1 z.1⟩
    have hcon := AnyQ.slices_SortFunc_total (P := Try.prog) (ρ := sortLink_ren) sortLink 2 Try.isAgg38 Try.sizeOf38 lkC' (fun _ => rfl) (fun x v hv => tyLk.one x.1 v hv) (fun x y : LkOk => cmpL x.1 y.1) hsw 23 #[] g off cap ks'.toArray w eg hcmp hH hg (by simp; omega) (fun x y h1 h2 => Subtype.ext (totalL x.1 y.1 h1 h2))
    have hsz : ks'.toArray.size = ks'.length := by simp
    rw [hsz] at hcon
    refine Calls.mono hcon ?_
    rintro e w' ⟨rfl, n, os, rfl⟩
    refine ⟨rfl, ?_⟩
    have hms : (ks'.mergeSort fun x y => !(ltOf (fun x y : LkOk => cmpL x.1 y.1) y x)).map (·.1) = sortL (ks'.map (·.1)) := List.map_mergeSort fun _ _ _ _ => rfl
    have h3 := h.l_sort (l' := ks'.mergeSort fun x y => !(ltOf (fun x y : LkOk => cmpL x.1 y.1) y x)) (fun _ => rfl) (by decide) hne' (by simp) n os
    rw [LAt_okL, hms] at h3
    exact h3
end Go.Proofs.Ytkcclijckpbobaa
