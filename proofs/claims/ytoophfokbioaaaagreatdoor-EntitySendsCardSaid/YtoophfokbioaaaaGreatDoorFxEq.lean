/- Effects, compared: the same ones are equal. -/
import Derived.Test.YtoophfokbioaaaaGreatDoorLawL
namespace Go.Proofs.YtoophfokbioaaaaGreatDoor
open Go.RowKit

theorem lk_same (n : Nat) (hn : 2 ≤ n) (a b : Int) (w : World) : (Op.equalIn n 51 (.agg #[.int .i64 a, .int .i64 b]) (.agg #[.int .i64 a, .int .i64 b])).run Tryz.prog w = .ok true w := by
  obtain ⟨m, rfl⟩ : ∃ m, n = m + 2 := ⟨n - 2, by omega⟩
  rw [run_equalIn_agg (P := Tryz.prog) w (m + 1) 51 _ _ (by kernel_rfl) (by kernel_rfl)]
  go_simp
theorem fm_same (n : Nat) (hn : 4 ≤ n) (f : Fr) (w : World) : (Op.equalIn n TFr (.agg f.cells.toArray) (.agg f.cells.toArray)).run Tryz.prog w = .ok true w := by
  obtain ⟨m, rfl⟩ : ∃ m, n = m + 4 := ⟨n - 4, by omega⟩
  obtain ⟨a1, a2, cmd, k, pf, ns, nr, inf⟩ := f
  have hl := lk_same (m + 3) (by omega) a1 a2
  rw [run_equalIn_agg (P := Tryz.prog) w (m + 3) TFr _ _ (by kernel_rfl) (by kernel_rfl)]
  go_simp
theorem fx_same (x : Fx) (w : World) : (Op.equalIn 10000 TFx (.agg x.cells.toArray) (.agg x.cells.toArray)).run Tryz.prog w = .ok true w := by
  obtain ⟨kind, f, data, timer⟩ := x
  have hf := fm_same 9999 (by decide) f
  obtain ⟨a1, a2, cmd, k, pf, ns, nr, inf⟩ := f
  rw [run_equalIn_agg (P := Tryz.prog) w 9999 TFx _ _ (by kernel_rfl) (by kernel_rfl)]
  go_simp
theorem fx_guard (op : BinOp) (x y : Operand) (xs ys : Array Value) (w : World) : (eqGuard op TFx x y (.agg xs) (.agg ys)).run Tryz.prog w = .ok () w := run_eqGuard_agg (P := Tryz.prog) w op TFx x y xs ys (by kernel_rfl)
theorem env_self (x : En) (w : World) : (Op.equalIn 10000 43 (.agg x.view) (.agg x.view)).run Tryz.prog w = .ok true w := by
  unfold En.view
  exact env_same _ _ _ _ _ _ _ _ _ _ _ _ _ _ _ w
/-- the cells of an effect of a list, as a load of the whole reads them -/
def FxOne (w : World) (g o : Nat) (x : Fx) : Prop := w.cell? ⟨g, o, none⟩ = some (Value.int .i64 x.kind) ∧ w.cell? ⟨g, o + 1, none⟩ = some (Value.int .i64 x.fr.sapi) ∧ w.cell? ⟨g, o + 2, none⟩ = some (Value.int .i64 x.fr.tei) ∧ w.cell? ⟨g, o + 3, none⟩ = some (Value.bool x.fr.cmd) ∧ w.cell? ⟨g, o + 4, none⟩ = some (Value.int .i64 x.fr.kind) ∧ w.cell? ⟨g, o + 5, none⟩ = some (Value.bool x.fr.pf) ∧ w.cell? ⟨g, o + 6, none⟩ = some (Value.int .i64 x.fr.ns) ∧ w.cell? ⟨g, o + 7, none⟩ = some (Value.int .i64 x.fr.nr) ∧ w.cell? ⟨g, o + 8, none⟩ = some (Value.string x.fr.info) ∧ w.cell? ⟨g, o + 9, none⟩ = some (Value.string x.data) ∧ w.cell? ⟨g, o + 10, none⟩ = some (Value.int .i64 x.timer)
theorem fx_one {w0 w : World} {R : HP} {g o c n : Nat} {l : List Fx} (h : St w0 w (LAt TFx 11 Fx.cells (.slice (some ⟨g, o, none⟩) n c) l * R)) (i : Nat) (x : Fx) (hx : l[i]? = some x) : FxOne w g (o + i * 11) x := by
  have hi : i < l.length := (List.getElem?_eq_some_iff.1 hx).1
  have key : ∀ j, j < 11 → w.cell? ⟨g, o + (i * 11 + j), none⟩ = x.cells[j]? := fun j hj => by
    have := h.row_cell (i * 11 + j) (by have := Nat.mul_le_mul_right 11 (show i + 1 ≤ l.length from hi); omega)
    rw [this, encs_at tyFx.len l i x j hx hj]
  unfold FxOne
  exact ⟨key 0 (by decide), key 1 (by decide), key 2 (by decide), key 3 (by decide), key 4 (by decide), key 5 (by decide), key 6 (by decide), key 7 (by decide), key 8 (by decide), key 9 (by decide), key 10 (by decide)⟩
end Go.Proofs.YtoophfokbioaaaaGreatDoor
