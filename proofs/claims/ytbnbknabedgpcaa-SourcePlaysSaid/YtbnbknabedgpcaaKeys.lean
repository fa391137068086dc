/- The keys of a map of ints, sorted: maps.Keys, slices.Sorted, in the words of claims on the heap. -/
import Derived.Test.YtbnbknabedgpcaaSrc
import Derived.Test.YtbnbknabedgpcaaLayKeys
import Derived.Test.YtbnbknabedgpcaaLaySorted
import Derived.Test.YtbnbknabedgpcaaLaySort
import Derived.Shelf.SlIterI.Nil
import Derived.Shelf.SortM.Plain
import Derived.Shelf.SortM.SortNone
namespace Go.Proofs.Ytbnbknabedgpcaa
open Go.RowKit Go.Maps Go.Sort Go.Shelf

section
variable {w0 W w' : World} {A R : HP} {E : TypeId} {k n : Nat} {v : Value} {xs : List Value}
theorem St.below (h : St w0 W A) (hb : Below W.heap.size W w') : St w0 w' A := by
  obtain ⟨o, t, u, g, hg, x⟩ := h
  refine ⟨hb.os.trans o, hb.tape.trans t, hb.output.trans u, g, fun j ob hk => ?_, x⟩
  have := hg j ob hk
  rw [hb.block j (Array.getElem?_eq_some_iff.1 this).1]
  exact this
theorem St.row_in (h : St w0 W A) (hb : Below W.heap.size W w') (hr : w'.ownsRow W.heap.size E k v n xs) : St w0 w' (Row E k v n xs * A) := by
  obtain ⟨hl, hr⟩ := hr
  rcases hr with ⟨rfl, rfl⟩ | ⟨gb, cap, cur, rfl, h1, h2, h3, h4, h5, h6⟩
  · have : xs = [] := List.eq_nil_of_length_eq_zero (by simpa using hl)
    subst this
    exact (h.below hb).row_nil E k
  · have hs : St w0 w' (blk gb (.cells cur E (0, 0)) * A) := by
      obtain ⟨o, t, u, g, hg, x⟩ := h
      have hn : ∀ j, W.heap.size ≤ j → g j = none := by
        intro j hj
        cases hgj : g j with
        | none => rfl
        | some ob =>
          have := (Array.getElem?_eq_some_iff.1 (hg j ob hgj)).1
          omega
      refine ⟨hb.os.trans o, hb.tape.trans t, hb.output.trans u, hjoin (fun j => if j = gb then some (.cells cur E (0, 0)) else none) g, ?_, _, g, ?_, rfl, rfl, x⟩
      · intro j ob hj
        unfold hjoin at hj
        by_cases hk : j = gb
        · simp [hk] at hj
          rw [hk, h2, hj]
        · simp [hk] at hj
          have := hg j ob hj
          rw [hb.block j (Array.getElem?_eq_some_iff.1 this).1]
          exact this
      · intro j
        by_cases hk : j = gb
        · right; exact hn j (by omega)
        · left; simp [hk]
    refine St.row_mk (off := 0) hs hl h3 h4 (by omega) (fun j hj => ?_)
    rw [Nat.zero_add, ← h6, List.getElem?_take_of_lt hj, Array.getElem?_toList]
end

theorem intT : Try.prog.underlying 3 = some (.int .i64) := Try.underlying3
/-- a map of ints as the kit's words have it -/
theorem ints_own {β : Type} {vv : β → Value} {b : Nat} {l : List (Int × β)} {w0 w : World} {R : HP} (h : St w0 w (MAt kInt vv b l * R)) (hm : l.length ≤ maxLen) :
    ∃ D0 : DataW Unit, w.ownsMap Try.prog 3 (fun _ => some (.nil, [])) b l.length D0 ∧ (intKeys D0).Perm (l.map (·.1)) ∧ Maps.size D0 = l.length := by
  obtain ⟨hok, es, clock, hI, hs⟩ := h.map
  have hsz := hI.size
  have hkv : ∀ x ∈ es.toList, ∃ n : Int, x.key = .int .i64 n ∧ (Lit.int .i64 n).wf = true := by
    intro x hx
    have : x.key ∈ es.toList.map (·.key) := List.mem_map.2 ⟨x, hx, rfl⟩
    rw [hI.keys] at this
    obtain ⟨p, hp, e⟩ := List.mem_map.1 this
    exact ⟨p.1, e.symm, hok p hp⟩
  have hkey : ∀ n : Int, (Lit.int .i64 n).wf = true → keyOf Try.prog 3 (.int .i64 n) = some (.int .i64 n) := fun n hn => by
    simp [keyOf, intT, mapKey, hn]
  have hrd : ∀ x ∈ es.toList, ∃ n : Int, x.key = .int .i64 n ∧ WideElems.rd (H := Unit) Try.prog 3 (fun _ => some (.nil, [])) x = some (.int .i64 n, .nil) := fun x hx => by
    obtain ⟨n, e, hn⟩ := hkv x hx
    refine ⟨n, e, ?_⟩
    unfold WideElems.rd
    rw [e, hkey n hn]
    rfl
  refine ⟨_, ⟨es, clock, hs.heap, ⟨by omega, hI.2, fun x hx => ?_⟩, by omega, rfl⟩, ?_, ?_⟩
  · obtain ⟨n, _, e⟩ := hrd x hx
    exact ⟨_, e⟩
  · have hp := (WideShapes.sorted_perm (es.toList.map (WideElems.rg (H := Unit) Try.prog 3 fun _ => some (.nil, [])))).map fun p => Go.intOf p.1
    refine hp.trans ?_
    rw [List.map_map]
    have e1 : es.toList.map ((fun p : Lit × DataW Unit => Go.intOf p.1) ∘ WideElems.rg Try.prog 3 fun _ => some (.nil, [])) = es.toList.map fun x => (match x.key with | .int _ n => n | _ => 0) := by
      refine List.map_congr_left fun x hx => ?_
      obtain ⟨n, e, hr⟩ := hrd x hx
      simp only [Function.comp, WideElems.rg, hr, Option.getD_some, Go.intOf, e]
    rw [e1]
    have e2 := congrArg (List.map fun v : Value => (match v with | .int _ n => n | _ => 0)) hI.keys
    simp only [List.map_map, Function.comp_def] at e2
    rw [e2]
    exact .of_eq (List.map_congr_left fun p _ => rfl)
  · rw [Maps.size_eq, (WideShapes.sorted_perm _).length_eq]
    simp [hsz]

/-- sorted -/
abbrev sortI (l : List Int) : List Int := l.mergeSort fun x y => decide (x ≤ y)
abbrev intC (n : Int) : List Value := [.int .i64 n]

theorem flat_ints : ∀ l : List Int, l.flatMap intC = l.map encZ
  | [] => rfl
  | a :: l => by rw [List.flatMap_cons, flat_ints l]; rfl

theorem sortsHere (m : Nat) : AnyZI.SortsIn Try.prog laySorted_ren Fence.wide m :=
  ⟨fun blk off cap ss W hH hblk hsz => callsIn_wide.2 (AnyM.slices_Sort_int laySort blk off cap ss W hH hblk hsz),
   fun p cap W => callsIn_wide.2 (AnyM.slices_Sort_int_none laySort p cap W)⟩

theorem m_keys (b : Nat) (w : World) : Calls Try.prog 55 #[.map (some b)] w fun e w' => e = .returned (.func (.func 76) #[] #[.pointer (some ⟨w.heap.size, 0, none⟩)]) ∧ w' = w.alloc (.cells #[.map (some b)] 101) :=
  (callsIn_wide (n := 6)).1 (AnyZI.keys_in layKeys Fence.wide 6 trivial rfl (some b) w)

theorem s_sorted {vv : Chk → Value} (g b : Nat) (l : List (Int × Chk)) (hl : l.length ≤ 1000000) (w0 W : World) (R : HP)
    (h : St w0 W (blk g (.cells #[.map (some b)] 101 (0, 0)) * (MAt kInt vv b l * R))) :
    Calls Try.prog 54 #[.func (.func 76) #[] #[.pointer (some ⟨g, 0, none⟩)]] W fun e w' => ∃ v, e = .returned v ∧ St w0 w' (LAt 3 1 intC v (sortI (l.map (·.1))) * (blk g (.cells #[.map (some b)] 101 (0, 0)) * (MAt kInt vv b l * R))) := by
  obtain ⟨D0, hown, hperm, hsize⟩ := ints_own h.f2 (by unfold maxLen; omega)
  have hseq : SeqGives Fence.wide 3 Try.prog 76 #[.pointer (some ⟨g, 0, none⟩)] encZ (fun ss => ss.Perm (intKeys D0)) (Maps.size D0) W :=
    AnyZI.keys_gives (ρ := layKeys_ren) { layKeys with } Fence.wide _ trivial rfl (by omega) g b l.length D0 W h.lt (h.cell 0) hown
  have cS := AnyZI.sorted_in laySorted Fence.wide 6 trivial trivial trivial trivial rfl (by omega) (sortsHere _) (enters_of Try.func75 (by kernel_rfl) rfl) 76 #[.pointer (some ⟨g, 0, none⟩)] trivial (enters_of Try.func76 (by kernel_rfl) rfl) _ _ (by unfold maxLen; omega) (by omega) _ hseq
  refine Calls.mono ((callsIn_wide (n := 6)).1 cS) ?_
  rintro e w' ⟨v, ss, rfl, hS, hrow, _, hb⟩
  refine ⟨v, rfl, ?_⟩
  have hss : ss.Perm (l.map (·.1)) := hS.trans hperm
  have h2 := h.row_in hb hrow
  unfold LAt
  have e1 : sortI (l.map (·.1)) = ss.mergeSort fun x y => decide (x ≤ y) := (mergeSort_of_perm_i hss).symm
  rw [e1]
  have e2 : (ss.mergeSort fun x y => decide (x ≤ y)).flatMap intC = (ss.mergeSort fun x y => decide (x ≤ y)).map encZ := flat_ints _
  rw [e2, (List.mergeSort_perm ss _).length_eq]
  exact h2
end Go.Proofs.Ytbnbknabedgpcaa
