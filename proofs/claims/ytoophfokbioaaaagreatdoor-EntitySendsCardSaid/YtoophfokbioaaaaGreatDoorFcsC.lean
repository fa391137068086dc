/- The check sequence of octets: fcs.Step, fcs.Sum, fcs.Seal. -/
import Derived.Test.YtoophfokbioaaaaGreatDoorOct
namespace Go.Proofs.YtoophfokbioaaaaGreatDoor
open Go.RowKit

/-- the register behind one bit more -/
def bitStep (r : Int) : Int := bits .xor .u16 (r / 2) (IntKind.u16.wrap (bits .and .u16 r 1 * 33800))
def bitSteps : Nat → Int → Int
  | 0, r => r
  | n + 1, r => bitSteps n (bitStep r)
def stepR (r o : Int) : Int := bitSteps 8 (bits .xor .u16 r o)
set_option maxRecDepth 100000 in
theorem s_step (r : Int) (o : UInt8) (w : World) : Calls Tryz.prog 126 #[.int .u16 r, .int .u8 o.toNat] w fun e w' => e = .returned (.int .u16 (stepR r o.toNat)) ∧ w = w' := by
  obtain ⟨X, hX⟩ : ∃ X, stepR r o.toNat = X := ⟨_, rfl⟩
  rw [hX]
  rw [stepR, show 8 = 8 - 0 from rfl] at hX
  have HX := Lib.hid hX
  have hw : IntKind.u16.wrap (o.toNat : Int) = o.toNat := by have := o.toNat_lt; rw [IntKind.wrap_u16]; omega
  clear hX
  go_enter Tryz.func126, Tryz.ntmps126
  go_wp2
  go_loop [10, 0] (fun s t => ∃ (k : Nat) (q : Int), k ≤ 8 ∧ s = .int .i64 k ∧ t = .int .u16 q ∧ Hid (bitSteps (8 - k) q = X)) (fun s _ => 8 - (intOf s).toNat)
  case atStart => exact ⟨0, bits .xor .u16 r o.toNat, by omega, rfl, rfl, HX⟩
  case round =>
    clear HX
    obtain ⟨k, q, hk, rfl, rfl, HX⟩ := hrel
    by_cases hlt : k < 8
    · have h8 : (k : Int) < 8 := by omega
      go_wp2
      go_round
      case rel =>
        refine ⟨k + 1, _, by omega, by go_num, rfl, ?_⟩
        have := HX.out
        rw [show 8 - k = (8 - (k + 1)) + 1 by omega] at this
        exact Lib.hid this
      case measure => simp [intOf]; omega
    · obtain rfl : k = 8 := by omega
      go_wp2
      go_ret
      exact ⟨by rw [← HX.out]; rfl, rfl⟩
/-- the register behind octets -/
def sumR : List UInt8 → Int → Int
  | [], r => r
  | o :: l, r => sumR l (stepR r o.toNat)
def sumOf (s : ByteArray) : Int := bits .xor .u16 IntKind.u16.max (sumR s.data.toList 65535)
set_option maxRecDepth 100000 in
theorem s_sum (s : ByteArray) (w : World) (hs : s.size < 2 ^ 62) : Calls Tryz.prog 103 #[.string s] w fun e w' => e = .returned (.int .u16 (sumOf s)) ∧ w = w' := by
  obtain ⟨X, hX⟩ : ∃ X, sumR (s.data.toList.drop 0) 65535 = X := ⟨_, rfl⟩
  have hY : sumOf s = bits .xor .u16 IntKind.u16.max X := by rw [← hX]; rfl
  rw [hY]
  have HX := Lib.hid hX
  clear hX hY
  obtain ⟨n, hn⟩ : ∃ n, s.size = n := ⟨_, rfl⟩
  rw [hn] at hs
  have HN := Lib.hid hn
  go_enter Tryz.func103, Tryz.ntmps103
  go_wp2
  go_loop [7, 3] (fun i t => ∃ (k : Nat) (q : Int), k ≤ n ∧ i = .int .i64 k ∧ t = .int .u16 q ∧ Hid (sumR (s.data.toList.drop k) q = X)) (fun i _ => n - (intOf i).toNat)
  case atStart => exact ⟨0, 65535, by omega, rfl, rfl, HX⟩
  case round =>
    clear HX
    obtain ⟨k, q, hk, rfl, rfl, HX⟩ := hrel
    by_cases hlt : k < n
    · have h8 : (k : Int) < n := by omega
      have hi : k < s.data.toList.length := by have h1 : s.data.size = n := HN.out; rw [Array.length_toList, h1]; exact hlt
      obtain ⟨o, ho⟩ : ∃ o, s.data.toList[k] = o := ⟨_, rfl⟩
      have hd : s.data.toList.drop k = o :: s.data.toList.drop (k + 1) := by rw [List.drop_eq_getElem_cons hi, ho]
      have hx : ∀ w, (Instr.index 9 (.string s) (.int .i64 (k : Int))).run Tryz.prog w = .ok (.int .u8 o.toNat) w := fun w => by
        have h1 := HN.out
        rw [run_index_string (P := Tryz.prog) w 9 s .i64 k Tryz.underlying9, dif_pos ⟨by omega, by omega⟩]
        have : s[(k : Int).toNat]'(by omega) = o := ho
        rw [this]
      have he := HX.out
      rw [hd, sumR] at he
      have HE := Lib.hid he
      have hc := s_step q o w
      obtain ⟨y, hy⟩ : ∃ y, stepR q o.toNat = y := ⟨_, rfl⟩
      rw [hy] at hc HE
      clear he hd ho hi hy hn
      go_wp2_with fail
      refine hc.mono ?_
      rintro e w1 ⟨rfl, rfl⟩
      go_wp2
      go_round
      case rel => exact ⟨k + 1, y, by omega, by go_num, rfl, HE⟩
      case measure => simp [intOf]; omega
    · obtain rfl : k = n := by omega
      have he := HX.out
      rw [List.drop_of_length_le (by rw [Array.length_toList]; exact Nat.le_of_eq hn)] at he
      obtain rfl : q = X := he
      go_wp2
      go_ret
      exact ⟨rfl, rfl⟩
theorem octets_size (l : List Int) : (octets l).size = l.length := by
  show (l.map _).toArray.size = _
  simp
/-- octets, with their check sequence behind -/
def sealed (s : ByteArray) : ByteArray := s ++ octets [IntKind.u8.wrap (sumOf s), IntKind.u8.wrap (sumOf s / 256)]
set_option maxRecDepth 100000 in
theorem s_seal (s : ByteArray) (w0 w : World) (R : HP) (h : St w0 w R) (hs : s.size < 2 ^ 62) : Calls Tryz.prog 57 #[.string s] w fun e w' => e = .returned (.string (sealed s)) ∧ St w0 w' R := by
  have hc := s_sum s w hs
  obtain ⟨X, hX⟩ : ∃ X, sumOf s = X := ⟨_, rfl⟩
  have hY : sealed s = s ++ octets [IntKind.u8.wrap X, IntKind.u8.wrap (X / 256)] := by rw [← hX]; rfl
  rw [hY]
  rw [hX] at hc
  clear hX hY
  obtain ⟨p, hp⟩ : ∃ p, IntKind.u8.wrap X = p := ⟨_, rfl⟩
  obtain ⟨q, hq⟩ : ∃ q, IntKind.u8.wrap (X / 256) = q := ⟨_, rfl⟩
  have hp0 : 0 ≤ p ∧ p < 256 := by rw [← hp, IntKind.wrap_u8]; omega
  have hq0 : 0 ≤ q ∧ q < 256 := by rw [← hq, IntKind.wrap_u8]; omega
  rw [hp, hq]
  go_enter Tryz.func57, Tryz.ntmps57
  go_wp2_with fail
  refine hc.mono ?_
  rintro e w1 ⟨rfl, rfl⟩
  have hb := run_octets (P := Tryz.prog) (src := 147) (dst := 9) (e := 5) Tryz.underlying147 Tryz.underlying5 Tryz.underlying9 (w.alloc (.cells #[.int .u8 p, .int .u8 q] 5)) ⟨w.heap.size, 0, none⟩ 2 [p, q] 2 rfl
      (by intro n hn; simp at hn; omega) (by intro j hj; rw [add_none]; match j, hj with | 0, _ => simp | 1, _ => simp)
  have hz : ¬ 9223372036854775807 < s.size + (octets [p, q]).size := by rw [octets_size]; simp; omega
  clear hp0 hq0 hs
  go_wp2
  go_ret
  exact ⟨rfl, (h.alloc _).drop⟩
end Go.Proofs.YtoophfokbioaaaaGreatDoor
