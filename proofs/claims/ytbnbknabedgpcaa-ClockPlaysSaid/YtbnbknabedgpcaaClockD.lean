/- The clock: Due. -/
import Derived.Test.YtbnbknabedgpcaaClockC
import Derived.Test.YtbnbknabedgpcaaSortKeys
namespace Go.Proofs.Ytbnbknabedgpcaa
open Go.RowKit Go.Sort

/-- keys that may be -/
abbrev KeyOk := { k : Key // okK k }
theorem okZero : okK (0, 0) := ⟨by decide, by decide⟩
instance : Inhabited KeyOk := ⟨⟨(0, 0), okZero⟩⟩
def keyC' (k : KeyOk) : List Value := keyC k.1
theorem flat_ok (l : List KeyOk) : l.flatMap keyC' = (l.map (·.1)).flatMap keyC := by
  induction l with
  | nil => rfl
  | cons k l ih => simp [keyC', ih]
theorem LAt_ok (v : Value) (l : List KeyOk) : LAt 43 2 keyC' v l = LAt 43 2 keyC v (l.map (·.1)) := by
  unfold LAt
  rw [flat_ok, List.length_map]

theorem tyKey : ETy Try.prog 48 43 2 16 keyC :=
  ⟨Try.underlying48, ⟨.agg #[.int .i64 0, .int .i64 0], by kernel_rfl, rfl⟩, fun _ => rfl, fun b u hu => by simp [keyC] at hu; rcases hu with rfl | rfl <;> rfl, by decide, by decide⟩

set_option maxHeartbeats 1000000 in
theorem due_sort (v : Value) (ks : List Key) (bx c b : Nat) (l : Tms) (hok : ∀ k ∈ ks, okK k) (hlen : ks.length ≤ 1000000) (w0 w : World) (R : HP)
    (h : St w0 w (LAt 43 2 keyC v ks * (blk bx (.cells #[ptrC c] 37 (0, 0)) * (blk c (.cells #[.map (some b)] 107 (0, 0)) * (MAt kKey vInt b l * R))))) :
    Calls Try.prog 48 #[v, .func (.func 49) #[] #[ptrC bx]] w fun e w' => e = .returned (.tuple #[]) ∧ St w0 w' (LAt 43 2 keyC v (sortK l ks) * (blk bx (.cells #[ptrC c] 37 (0, 0)) * (blk c (.cells #[.map (some b)] 107 (0, 0)) * (MAt kKey vInt b l * R)))) := by
  rcases h.l_cells tyKey.len with ⟨rfl, a, rfl⟩ | ⟨g, off, cap, rfl, _, _, _⟩
  · have := AnyF.slices_SortFunc_none (P := Try.prog) (ρ := sortKey_ren) { sortKey with } a 0 (.func (.func 49) #[] #[ptrC bx]) w
    refine Calls.mono this ?_
    rintro e w' ⟨rfl, rfl⟩
    exact ⟨rfl, by simpa [sortK] using h⟩
  · by_cases hne : ks = []
    · subst hne
      have := AnyF.slices_SortFunc_none (P := Try.prog) (ρ := sortKey_ren) { sortKey with } (some ⟨g, off, none⟩) cap (.func (.func 49) #[] #[ptrC bx]) w
      refine Calls.mono this ?_
      rintro e w' ⟨rfl, rfl⟩
      exact ⟨rfl, by simpa [sortK] using h⟩
    obtain ⟨ks', rfl⟩ : ∃ ks' : List KeyOk, ks = ks'.map (·.1) := ⟨ks.attachWith okK hok, by simp [List.attachWith, List.map_pmap]⟩
    rw [← LAt_ok] at h
    have hne' : ks' ≠ [] := fun e => hne (by rw [e]; rfl)
    rw [List.length_map] at h hlen ⊢
    obtain ⟨_, hH, hg⟩ := h.l_holds (fun _ => rfl) (by decide) hne'
    have eg : ∀ args w, (callFunc 49 args).run Try.prog w = .ok (.enter 49 args) w := enters_of Try.func49 (by kernel_rfl) rfl
    have hcmp : CmpLays Try.prog 49 #[ptrC bx] keyC' 2 (fun x y : KeyOk => cmpK l x.1 y.1) g off ks'.toArray.size w := by
      intro m os dk hd x y
      have h2 := h.l_sort (l' := dk.toList) (fun _ => rfl) (by decide) hne' (by simpa using hd) m os
      exact due_cmp bx c b l x.1 y.1 x.2 y.2 w0 _ _ h2.drop
    have hsw : SWO (ltOf fun x y : KeyOk => cmpK l x.1 y.1) := ⟨fun x => (swoK l).irrefl x.1, fun x y z => (swoK l).trans x.1 y.1 z.1, fun x y z => (swoK l).ntrans x.1 y.1 z.1⟩
    have hcon := AnyQ.slices_SortFunc_total (P := Try.prog) (ρ := sortKey_ren) sortKey 2 Try.isAgg43 Try.sizeOf43 keyC' (fun _ => rfl) (fun x v hv => tyKey.one x.1 v hv) (fun x y : KeyOk => cmpK l x.1 y.1) hsw 49 #[ptrC bx] g off cap ks'.toArray w eg hcmp hH hg (by simp; omega) (fun x y h1 h2 => Subtype.ext (totalK l x.1 y.1 h1 h2))
    have hsz : ks'.toArray.size = ks'.length := by simp
    rw [hsz] at hcon
    refine Calls.mono hcon ?_
    rintro e w' ⟨rfl, n, os, rfl⟩
    refine ⟨rfl, ?_⟩
    have hms : (ks'.mergeSort fun x y => !(ltOf (fun x y : KeyOk => cmpK l x.1 y.1) y x)).map (·.1) = sortK l (ks'.map (·.1)) := List.map_mergeSort fun _ _ _ _ => rfl
    have h3 := h.l_sort (l' := ks'.mergeSort fun x y => !(ltOf (fun x y : KeyOk => cmpK l x.1 y.1) y x)) (fun _ => rfl) (by decide) hne' (by simp) n os
    rw [LAt_ok, hms] at h3
    exact h3
end Go.Proofs.Ytbnbknabedgpcaa
