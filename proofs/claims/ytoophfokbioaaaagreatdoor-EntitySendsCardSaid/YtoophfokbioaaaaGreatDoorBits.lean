/- Octets of numbers: bits.Pack. -/
import Derived.Test.YtoophfokbioaaaaGreatDoorRow
import Derived.Test.YtoophfokbioaaaaGreatDoorChecked
namespace Go.Proofs.YtoophfokbioaaaaGreatDoor
open Go.RowKit

abbrev pairC (l : List (Int × Int)) : List Value := l.flatMap fun f => [.int .i64 f.1, .int .i64 f.2]
theorem pairC_len (l : List (Int × Int)) : (pairC l).length = l.length * 2 := by
  induction l with
  | nil => rfl
  | cons f l ih => simp only [pairC, List.flatMap_cons, List.length_append, List.length_cons, List.length_nil] at *; omega
theorem pairC_at : ∀ (l : List (Int × Int)) (k : Nat) (f : Int × Int), l[k]? = some f → (pairC l)[k * 2]? = some (.int .i64 f.1) ∧ (pairC l)[k * 2 + 1]? = some (.int .i64 f.2)
  | [], _, _, h => by simp at h
  | g :: l, 0, f, h => by simp at h; subst h; simp [pairC]
  | g :: l, k + 1, f, h => by
    have := pairC_at l k f (by simpa using h)
    rw [show (k + 1) * 2 = k * 2 + 2 by omega, show k * 2 + 2 + 1 = (k * 2 + 1) + 2 by omega]
    simpa [pairC] using this

/-- numbers one above the other; the octet, and the error -/
def packs : List (Int × Int) → Int → Nat → Int × Int
  | [], out, low => if 8 < low then (0, 5) else (IntKind.u8.wrap out, 0)
  | f :: l, out, low => if f.1 < 1 ∨ 8 < f.1 ∨ f.2 < 0 ∨ f.2 / 2 ^ f.1.toNat ≠ 0 then (0, 2) else packs l (bits .or .i64 out (wrap64 (f.2 * 2 ^ (min low 8)))) (min (low + f.1.toNat) 9)

theorem b_pack (l : List (Int × Int)) (v : Value) (w0 w : World) (R : HP) (h : St w0 w (Row 150 2 v l.length (pairC l) * R)) (hl : l.length ≤ 1000) :
    Calls Tryz.prog 101 #[v] w fun e w' => e = .returned (.tuple #[.int .u8 (packs l 0 0).1, .int .i64 (packs l 0 0).2]) ∧ St w0 w' (Row 150 2 v l.length (pairC l) * R) := by
  obtain ⟨a, cap, rfl, _, _⟩ := h.row_shape
  generalize hS : packs l 0 0 = res
  have HS := Lib.hid hS
  clear hS
  go_enter Tryz.func101, Tryz.ntmps101
  go_wp2
  go_loopw [4, 5, 10] (fun s4 s5 i wr => ∃ (k : Nat) (out : Int) (low : Nat), k ≤ l.length ∧ i = .int .i64 k ∧ s4 = .int .i64 out ∧ s5 = .int .i64 low ∧ low ≤ 9 ∧ Hid (packs (l.drop k) out low = res) ∧ St w0 wr (Row 150 2 (.slice a l.length cap) l.length (pairC l) * R)) (fun _ _ i _ => l.length - (intOf i).toNat)
  case atStart => exact ⟨0, 0, 0, by omega, rfl, rfl, rfl, by omega, HS, h⟩
  case round =>
    clear h HS
    obtain ⟨k, out, low, hk, rfl, rfl, rfl, hlow, He, h1⟩ := hrel
    by_cases hlt : k < l.length
    · obtain ⟨f, hf⟩ : ∃ f, l[k]? = some f := ⟨_, List.getElem?_eq_getElem hlt⟩
      have he := He.out
      have hd : l.drop k = f :: l.drop (k + 1) := by
        rw [List.drop_eq_getElem_cons hlt]
        congr 1
        rw [List.getElem?_eq_getElem hlt] at hf
        exact Option.some.inj hf
      rw [hd, packs] at he
      obtain ⟨c0, c1⟩ := pairC_at l k f hf
      obtain ⟨x, y⟩ := f
      simp only [] at he c0 c1
      rcases h1.row with ⟨a0, hv, h0, _⟩ | ⟨g, off, cap', cur, hv, b1, b2, b3, b4, hs⟩
      · omega
      · simp only [Value.slice.injEq] at hv
        obtain ⟨rfl, _, rfl⟩ := hv
        have d0 := (h1.row_cell (k * 2) (by omega)).trans c0
        have d1 := (h1.row_cell (k * 2 + 1) (by omega)).trans c1
        have e1 : off + (k * 2 + 1) = off + k * 2 + 1 := by omega
        rw [e1] at d1
        have H1 := Lib.hid h1
        clear b1 b3 b4 hs hf hd c0 c1 e1 He
        by_cases p1 : x < 1
        · rw [if_pos (.inl p1)] at he
          subst he
          go_wp2
          go_ret2
          exact ⟨rfl, (H1.out.alloc _).drop⟩
        by_cases p2 : 8 < x
        · rw [if_pos (.inr (.inl p2))] at he
          subst he
          go_wp2
          go_ret2
          exact ⟨rfl, (H1.out.alloc _).drop⟩
        by_cases p3 : y < 0
        · rw [if_pos (.inr (.inr (.inl p3)))] at he
          subst he
          have q2 : x ≤ 8 := by omega
          go_wp2
          go_ret2
          exact ⟨rfl, (H1.out.alloc _).drop⟩
        have q1 : 1 ≤ x := by omega
        have q0 : 0 ≤ x := by omega
        have q2 : x ≤ 8 := by omega
        have q3 : 0 ≤ y := by omega
        obtain ⟨z, hz⟩ : ∃ z, y / 2 ^ x.toNat = z := ⟨_, rfl⟩
        rw [hz] at he
        by_cases p4 : z = 0
        · rw [if_neg (by omega)] at he
          have HE := Lib.hid he
          clear he
          go_wp2
          go_roundw
          case rel =>
            have he := HE.out
            refine ⟨k + 1, _, min (low + x.toNat) 9, by omega, by go_num, rfl, congrArg (Value.int .i64) ?_, by omega, ?_, (H1.out.alloc _).drop⟩
            · split <;> omega
            · have ee : (if 8 < (low : Int) then (8 : Int) else low).toNat = min low 8 := by split <;> omega
              rw [ee]
              exact Lib.hid he
          case measure => simp [intOf]; omega
        · rw [if_pos (.inr (.inr (.inr p4)))] at he
          subst he
          go_wp2
          go_ret2
          exact ⟨rfl, (H1.out.alloc _).drop⟩
    · obtain rfl : k = l.length := by omega
      have he := He.out
      rw [List.drop_length, packs] at he
      by_cases p : 8 < low
      · rw [if_pos p] at he
        subst he
        go_wp2
        go_ret2
        exact ⟨rfl, h1⟩
      · rw [if_neg p] at he
        subst he
        go_wp2
        go_ret2
        exact ⟨rfl, h1⟩
end Go.Proofs.YtoophfokbioaaaaGreatDoor
