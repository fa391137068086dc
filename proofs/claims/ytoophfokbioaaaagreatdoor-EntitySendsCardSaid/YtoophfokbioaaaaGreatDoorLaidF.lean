/- From a card's condition to what the walks ask: the kinds' first octets; a world that meets it. -/
import Derived.Test.YtoophfokbioaaaaGreatDoorPutC
import Derived.Test.YtoophfokbioaaaaGreatDoorLaid
namespace Go.Proofs.YtoophfokbioaaaaGreatDoor
open Go.RowKit

section
variable {H : Type} {enc : TypeId × Value → H} {P : Program} {w : World} {base : Nat} {sp : Nat → Bool} {held : Bool}
theorem cells_octs {fuel : Nat} {t e : TypeId} {n : Nat} {cs : List Value} {ks : List Int} {p : List MemPlace}
    (ht : P.underlying t = some (.array n e)) (he : P.underlying e = some (.int .u8)) (hce : P.cellsOf e = 1) (hct : P.cellsOf t = n)
    (h : DataW.trod enc P w base sp held fuel t cs = some (.agg (ks.map fun s => .lit (.int .u8 s)), p)) : ∀ i, i < n → cs[i]? = some (.int .u8 (ks.getD i 0)) := by
  cases fuel with
  | zero => simp [DataW.trod] at h
  | succ fuel =>
    simp only [DataW.trod, ht, hce, hct, Nat.mul_one] at h
    split at h
    · rename_i hl
      obtain ⟨xs, hm, hx⟩ := Option.map_eq_some_iff.1 h
      have hxs : xs.map (·.1) = ks.map fun s => (DataW.lit (.int .u8 s) : DataW H) := by
        have := congrArg Prod.fst hx
        simpa using this
      intro i hi
      obtain ⟨b, hb, hf⟩ := Lib.mapM_at hm i i (by simp [hi])
      obtain ⟨s, hc, rfl, _⟩ := DataW.trod_int he hf
      have h1 : cs[i]? = some (.int .u8 s) := by
        have := congrArg (·[0]?) hc
        simpa [List.getElem?_take, List.getElem?_drop] using this
      have h2 : (xs.map (·.1))[i]? = some (DataW.lit (.int .u8 s) : DataW H) := by simp [hb]
      rw [hxs] at h2
      simp only [List.getElem?_map, Option.map_eq_some_iff, DataW.lit.injEq, Lit.int.injEq] at h2
      obtain ⟨z', hz', _, hz2⟩ := h2
      rw [h1, List.getD_eq_getElem?_getD, hz', ← hz2]
      rfl
    · cases h
end
theorem first_of_laid {W : World} {l : List (String × DataW Unit)} (h : laidMet Tryz.prog l W) (hm : ("lapwing/ctrl.first", (.agg (firstK.map fun s => .lit (.int .u8 s)) : DataW Unit)) ∈ l) : FirstAt W := by
  obtain ⟨ps, hv, _⟩ := h
  obtain ⟨g, t, cs, fuel, p, hg, ht, hvar, hd⟩ := laid_reads hv _ _ hm
  obtain rfl := Option.some.inj ((show Tryz.prog.globalNamed "lapwing/ctrl.first" = some 1 by kernel_rfl).symm.trans hg)
  obtain rfl := Option.some.inj ((show (Tryz.prog.globals[1]?).map (·.type) = some 145 by kernel_rfl).symm.trans ht)
  have hc := cells_octs (n := 10) (e := 5) Tryz.underlying145 Tryz.underlying5 (by kernel_rfl) (by kernel_rfl) hd
  intro i hi
  have := World.var?_cell (show Tryz.prog.globalNamed "lapwing/ctrl.first" = some 1 by kernel_rfl) hvar i
  rw [this]
  simpa using hc i hi

/-- a world that meets the condition -/
noncomputable def laidWorldF (os : Os) : World :=
  let w0 := World.holding Tryz.prog os ⟨#[], #[], []⟩
  { w0 with heap := (w0.heap.modify 0 fun
      | .cells _ t frozen => .cells (nmB.map fun s => Value.string ⟨s.toArray⟩).toArray t frozen
      | o => o).modify 1 fun
      | .cells _ t frozen => .cells (firstK.map fun s => Value.int .u8 s).toArray t frozen
      | o => o }
end Go.Proofs.YtoophfokbioaaaaGreatDoor
