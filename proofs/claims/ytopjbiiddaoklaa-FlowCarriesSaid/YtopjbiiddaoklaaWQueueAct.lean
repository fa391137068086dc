/- The queue laws' acts. -/
import Derived.Test.YtopjbiiddaoklaaWQueueWakes
import Derived.Test.YtopjbiiddaoklaaLaw
namespace Go.Proofs.Ytopjbiiddaoklaa
open Go.RowKit

structure QAct where
  Do : Int
  N : Int
  Often : Int
  Data : ByteArray

abbrev QActSh : Sh := .pair (.int .i64) (.pair (.int .i64) (.pair (.int .i64) (.pair (.string) (.unit))))
def QAct.cells (a : QAct) : List Value := [.int .i64 a.Do, .int .i64 a.N, .int .i64 a.Often, .string a.Data]
structure QAct.Fits (a : QAct) : Prop where
  d : (Lit.int .i64 a.Do).wf = true
  n : (Lit.int .i64 a.N).wf = true
  o : (Lit.int .i64 a.Often).wf = true
  s : a.Data.size ≤ maxLen

theorem QAct.of_ok {w : World} {xs : List Value} (h : QActSh.ok w xs) : ∃ a : QAct, xs = a.cells ∧ a.Fits := by
  obtain ⟨x, y, rfl, _, ⟨d, rfl, hd⟩, x, y, rfl, _, ⟨n, rfl, hn⟩, x, y, rfl, _, ⟨o, rfl, ho⟩, x, y, rfl, _, ⟨s, rfl, hs⟩, rfl⟩ := h
  exact ⟨⟨d, n, o, s⟩, rfl, hd, hn, ho, hs⟩

/-- A script: which acts it holds, and where. -/
theorem qscript {w : World} {a : Option Addr} {len cap : Nat} (h : (Sh.slice QActSh).ok w [.slice a len cap]) :
    len ≤ cap ∧ cap ≤ maxLen ∧ (0 < len → ∃ b off, a = some ⟨b, off, none⟩ ∧ b < w.heap.size ∧ ∀ i, i < len → ∃ x : QAct, x.Fits ∧
      w.cell? ⟨b, off + i * 4, none⟩ = some (.int .i64 x.Do) ∧ w.cell? ⟨b, off + i * 4 + 1, none⟩ = some (.int .i64 x.N) ∧ w.cell? ⟨b, off + i * 4 + 2, none⟩ = some (.int .i64 x.Often) ∧ w.cell? ⟨b, off + i * 4 + 3, none⟩ = some (.string x.Data)) := by
  obtain ⟨h1, h2, h3⟩ := Sh.slice_ok h (by decide)
  refine ⟨h1, h2, fun h0 => ?_⟩
  obtain ⟨b, off, e, hb, hi⟩ := h3 h0
  refine ⟨b, off, e, hb, fun i hlt => ?_⟩
  obtain ⟨xs, _, hc, hx⟩ := hi i hlt
  obtain ⟨x, rfl, fx⟩ := QAct.of_ok hx
  exact ⟨x, fx, hc 0 (by decide), hc 1 (by decide), hc 2 (by decide), hc 3 (by decide)⟩

end Go.Proofs.Ytopjbiiddaoklaa
