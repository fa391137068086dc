/- What an entity tells when its TEI is taken away. -/
import Derived.Test.YtoophfokbioaaaaGreatDoorEntTei
namespace Go.Proofs.YtoophfokbioaaaaGreatDoor
open Go.RowKit

/-- a link's end is told -/
def endK (y : Fx) : Bool := y.kind == 3 || y.kind == 4
theorem stop_kinds {x : En} (h : ∀ y ∈ x.out, y.kind = 10) (t : Int) : ∀ y ∈ (x.stop t).out, y.kind = 10 := by
  unfold En.stop
  split
  · intro y hy
    have hm : y ∈ x.out ++ [Fx.tim 10 t] := by
      have := hy
      unfold En.tell at this
      rw [En.setT_out] at this
      exact this
    rcases List.mem_append.1 hm with h1 | h1
    · exact h y h1
    · rw [List.mem_singleton.1 h1]
  · exact h
theorem end1_kinds {x : En} (h : x.out = []) : ∀ y ∈ x.end1.out, y.kind = 10 := by
  have h0 : ∀ y ∈ (x.setFl x.fl.clear).out, y.kind = 10 := fun y hy => by
    have : y ∈ x.out := hy
    rw [h] at this
    cases this
  exact stop_kinds (stop_kinds h0 200) 203
theorem gone_out {x : En} (h : x.out = []) (ok : x.Ok) : (∀ y ∈ x.remove.2.1, y.kind ≠ 0 ∧ y.kind ≠ 9) ∧ List.countP endK x.remove.2.1 = (if 5 ≤ x.state ∨ x.state = 3 then 1 else 0) := by
  have h0 := end1_kinds h
  have s8 := ok.s8
  have k0 : ∀ y ∈ x.end1.out, y.kind ≠ 0 ∧ y.kind ≠ 9 := fun y hy => by
    rw [h0 y hy]
    decide
  have c0 : List.countP endK x.end1.out = 0 := List.countP_eq_zero.2 (fun y hy => by unfold endK; rw [h0 y hy]; decide)
  have app : ∀ k, k = 3 ∨ k = 4 → (∀ y ∈ x.end1.out ++ [Fx.of k noStr], y.kind ≠ 0 ∧ y.kind ≠ 9) ∧ List.countP endK (x.end1.out ++ [Fx.of k noStr]) = 1 := fun k hk => by
    refine ⟨fun y hy => ?_, ?_⟩
    · rcases List.mem_append.1 hy with h1 | h1
      · exact k0 y h1
      · rw [List.mem_singleton.1 h1]
        show k ≠ 0 ∧ k ≠ 9
        omega
    · rw [List.countP_append, c0]
      rcases hk with rfl | rfl <;> rfl
  unfold En.remove
  split
  · rw [if_neg (by omega)]
    exact ⟨fun y hy => absurd hy (by simp), rfl⟩
  · dsimp only
    split
    · rw [if_pos (by omega)]
      exact app 3 (Or.inl rfl)
    · split
      · rw [if_pos (by omega)]
        exact app 4 (Or.inr rfl)
      · rw [if_neg (by omega)]
        exact ⟨k0, c0⟩
/-- and behind it -/
theorem gone_low {x : En} (h : x.Low) (_ : x.Ok) : x.remove.1.state = 1 ∧ x.remove.1.tei = -1 ∧ x.remove.1.t2 = false ∧ x.remove.1.t3 = false ∧ x.remove.1.units = [] ∧ x.remove.1.fl.q.l = [] ∧ x.remove.1.fl.q.sent = 0 ∧ (x.remove.2.2 = 11 ↔ x.state = 1) := by
  have hl := low_remove h
  have hs : x.remove.1.state = 1 := by
    unfold En.remove
    split
    · assumption
    · rfl
  obtain ⟨t1, t2, t3, q1, q2, u⟩ := hl (by omega)
  refine ⟨hs, t1, t2, t3, u hs, q1, q2, ?_⟩
  unfold En.remove
  split
  · rename_i h1
    exact ⟨fun _ => h1, fun _ => rfl⟩
  · rename_i h1
    exact ⟨fun e => absurd (show (0 : Int) = 11 from e) (by decide), fun e => absurd e h1⟩
end Go.Proofs.YtoophfokbioaaaaGreatDoor
