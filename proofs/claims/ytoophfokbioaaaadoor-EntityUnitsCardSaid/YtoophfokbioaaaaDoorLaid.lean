/- From a card's condition to what the walks ask: the names of the kinds; a world that meets it. -/
import Derived.Test.YtoophfokbioaaaaDoorEntT
import Derived.Lib.LaidTab
import Derived.Handed
import Derived.LaidHandle
namespace Go.Proofs.YtoophfokbioaaaaDoor
open Go.RowKit

/-- the names' octets -/
abbrev nmB : List (List UInt8) := [[73], [82, 82], [82, 78, 82], [82, 69, 74], [83, 65, 66, 77, 69], [68, 77], [85, 73], [68, 73, 83, 67], [85, 65], [70, 82, 77, 82]]
section
variable {H : Type} {enc : TypeId × Value → H} {P : Program} {w : World} {base : Nat} {sp : Nat → Bool} {held : Bool}
theorem cells_strs {fuel : Nat} {t e : TypeId} {n : Nat} {cs : List Value} {ss : List (List UInt8)} {p : List MemPlace}
    (ht : P.underlying t = some (.array n e)) (he : P.underlying e = some .string) (hce : P.cellsOf e = 1) (hct : P.cellsOf t = n)
    (h : DataW.trod enc P w base sp held fuel t cs = some (.agg (ss.map fun s => .lit (.string s)), p)) : ∀ i, i < n → ∃ b : ByteArray, cs[i]? = some (.string b) ∧ ss[i]? = some b.data.toList := by
  cases fuel with
  | zero => simp [DataW.trod] at h
  | succ fuel =>
    simp only [DataW.trod, ht, hce, hct, Nat.mul_one] at h
    split at h
    · rename_i hl
      obtain ⟨xs, hm, hx⟩ := Option.map_eq_some_iff.1 h
      have hxs : xs.map (·.1) = ss.map fun s => (DataW.lit (.string s) : DataW H) := by
        have := congrArg Prod.fst hx
        simpa using this
      intro i hi
      obtain ⟨b, hb, hf⟩ := Lib.mapM_at hm i i (by simp [hi])
      obtain ⟨s, hc, rfl, _⟩ := DataW.trod_string he hf
      have h1 : cs[i]? = some (.string s) := by
        have := congrArg (·[0]?) hc
        simpa [List.getElem?_take, List.getElem?_drop] using this
      have h2 : (xs.map (·.1))[i]? = some (DataW.lit (.string s.data.toList) : DataW H) := by simp [hb]
      rw [hxs] at h2
      simp only [List.getElem?_map, Option.map_eq_some_iff, DataW.lit.injEq, Lit.string.injEq] at h2
      obtain ⟨z', hz', hz2⟩ := h2
      exact ⟨s, h1, by rw [hz', hz2]⟩
    · cases h
end
/-- one listed variable's reading -/
def Reads1 (P : Program) (w : World) (n : String) (d : DataW Unit) : Prop :=
  ∃ g t cs fuel p, P.globalNamed n = some g ∧ (P.globals[g]?).map (·.type) = some t ∧ w.var? P n = some cs ∧ DataW.trod (fun _ => ()) P w 0 (fun _ => true) false fuel t cs.toList = some (d, p)
theorem laid_reads {P : Program} {w : World} : ∀ {l : List (String × DataW Unit)} {ps : List MemPlace}, DataW.LaidVars P w l ps → ∀ n d, (n, d) ∈ l → Reads1 P w n d
  | [], _, _, _, _, hm => by cases hm
  | (n', d') :: r, ps, h, n, d, hm => by
    obtain ⟨g, t, cs, fuel, p, q, h1, h2, h3, h4, h5, _⟩ := h
    rcases List.mem_cons.1 hm with e | e
    · cases e
      exact ⟨g, t, cs, fuel, p, h1, h2, h3, h4⟩
    · exact laid_reads h5 n d e
theorem nm_full : ∀ i, i < 10 → (!(⟨(nmB.getD i []).toArray⟩ : ByteArray).toList.isEmpty) = true := by decide +kernel
theorem names_of_laid {W : World} {l : List (String × DataW Unit)} (h : laidMet Tryd.prog l W) (hm : ("lapwing/ctrl.names", (.agg (nmB.map fun s => .lit (.string s)) : DataW Unit)) ∈ l) : NamesAt W := by
  obtain ⟨ps, hv, _⟩ := h
  obtain ⟨g, t, cs, fuel, p, hg, ht, hvar, hd⟩ := laid_reads hv _ _ hm
  obtain rfl := Option.some.inj ((show Tryd.prog.globalNamed "lapwing/ctrl.names" = some 0 by kernel_rfl).symm.trans hg)
  obtain rfl := Option.some.inj ((show (Tryd.prog.globals[0]?).map (·.type) = some 97 by kernel_rfl).symm.trans ht)
  have hc := cells_strs (n := 10) (e := 9) Tryd.underlying97 Tryd.underlying9 (by kernel_rfl) (by kernel_rfl) hd
  intro i hi
  obtain ⟨b, h1, h2⟩ := hc i hi
  refine ⟨b, ?_, ?_⟩
  · have e : b = ⟨(nmB.getD i []).toArray⟩ := by
      have : nmB.getD i [] = b.data.toList := by simp [List.getD, h2]
      rw [this]
    rw [e]
    exact nm_full i hi
  · have := World.var?_cell (show Tryd.prog.globalNamed "lapwing/ctrl.names" = some 0 by kernel_rfl) hvar i
    rw [this]
    simpa using h1

/-- a world that meets the condition -/
noncomputable def laidWorld (os : Os) : World :=
  let w0 := World.holding Tryd.prog os ⟨#[], #[], []⟩
  { w0 with heap := w0.heap.modify 0 fun
      | .cells _ t frozen => .cells (nmB.map fun s => Value.string ⟨s.toArray⟩).toArray t frozen
      | o => o }
end Go.Proofs.YtoophfokbioaaaaDoor
