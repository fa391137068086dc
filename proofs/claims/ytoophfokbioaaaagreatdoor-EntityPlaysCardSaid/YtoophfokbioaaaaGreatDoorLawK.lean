/- The entity's laws: a script. -/
import Derived.Test.YtoophfokbioaaaaGreatDoorLawJ
namespace Go.Proofs.YtoophfokbioaaaaGreatDoor
open Go.RowKit

theorem ac_script {w : World} {a : Option Addr} {len cap : Nat} (h : (Sh.slice acSh).ok w [.slice a len cap]) : len ≤ cap ∧ cap ≤ maxLen ∧ (0 < len → ∃ b off, a = some ⟨b, off, none⟩ ∧ b < w.heap.size ∧
    ∀ i, i < len → ∃ x : AcE, x.Wf ∧ ∀ j, j < 16 → w.cell? ⟨b, off + i * 16 + j, none⟩ = x.cells[j]?) := by
  obtain ⟨h1, h2, h3⟩ := Sh.slice_ok h (by decide)
  refine ⟨h1, h2, fun h0 => ?_⟩
  obtain ⟨b, off, ha, hb, hi⟩ := h3 h0
  refine ⟨b, off, ha, hb, fun i hil => ?_⟩
  obtain ⟨xs, _, hc, hx⟩ := hi i hil
  obtain ⟨x, rfl, ok⟩ := ac_of hx
  refine ⟨x, ok, fun j hj => ?_⟩
  have := hc j hj
  exact this
end Go.Proofs.YtoophfokbioaaaaGreatDoor
