/- The string of some octets; an octet of a bit and seven. -/
import Derived.Test.YtoophfokbioaaaaGreatDoorBits
import Derived.Laws.IdiomStrings
namespace Go.Proofs.YtoophfokbioaaaaGreatDoor
open Go.RowKit

theorem packs_17 (a : Int) : (packs [(1, 1), (7, a)] 0 0) = if 0 ≤ a ∧ a ≤ 127 then (2 * a + 1, 0) else (0, 2) := by
  by_cases h : 0 ≤ a ∧ a ≤ 127
  · rw [if_pos h]
    obtain ⟨n, rfl⟩ : ∃ n : Nat, a = n := ⟨a.toNat, by omega⟩
    have : ∀ n : Fin 128, packs [(1, 1), (7, (n : Nat))] 0 0 = (2 * ((n : Nat) : Int) + 1, 0) := by decide +kernel
    exact this ⟨n, by omega⟩
  · rw [if_neg h]
    unfold packs
    rw [if_neg (by simp)]
    unfold packs
    rw [if_pos]
    by_cases h0 : a < 0
    · exact .inr (.inr (.inl h0))
    · refine .inr (.inr (.inr ?_))
      show a / 128 ≠ 0
      omega

/-- the string of some octets -/
def octets (ns : List Int) : ByteArray := ⟨(ns.map fun n => UInt8.ofNat n.toNat).toArray⟩
theorem run_octets {P : Program} {src dst e : TypeId} (hs : P.underlying src = some (.slice e)) (he : P.underlying e = some (.int .u8)) (hd : P.underlying dst = some .string) (w : World) (a : Addr) (cap : Nat) (ns : List Int) (k : Nat) (hk : ns.length = k)
    (hn : ∀ n ∈ ns, 0 ≤ n ∧ n < 256) (hc : ∀ j (hj : j < ns.length), w.cell? (a.add j) = some (.int .u8 ns[j])) : (convert src dst (.slice (some a) k cap)).run P w = .ok (.string (octets ns)) w := by
  subst hk
  have := run_convert_bytes_back (P := P) w src dst e a cap (ns.map fun n => UInt8.ofNat n.toNat) hs he hd (fun j hj => by
    have hj' : j < ns.length := by simpa using hj
    rw [hc j hj']
    have := hn ns[j] (List.getElem_mem hj')
    simp only [List.getElem_map, UInt8.toNat_ofNat']
    congr 2
    omega)
  simpa [octets] using this
end Go.Proofs.YtoophfokbioaaaaGreatDoor
