/- Messages of TEI management: may one be sent? -/
import Derived.Test.YtbnbknabedgpcaaBits
import Derived.Laws.IdiomStrings
namespace Go.Proofs.Ytbnbknabedgpcaa
open Go.RowKit

theorem packs_17 (a : Int) : (packs [(1, 1), (7, a)] 0 0) = if 0 ≤ a ∧ a ≤ 127 then (2 * a + 1, 0) else (0, 2) := by
  by_cases h : 0 ≤ a ∧ a ≤ 127
  · rw [if_pos h]
    obtain ⟨n, rfl⟩ : ∃ n : Nat, a = n := ⟨a.toNat, by omega⟩
    have : ∀ n : Fin 128, packs [(1, 1), (7, (n : Nat))] 0 0 = (2 * ((n : Nat) : Int) + 1, 0) := by decide +kernel
    exact this ⟨n, by omega⟩
  · rw [if_neg h]
    unfold packs
    rw [if_neg (by simp)]
    unfold packs
    rw [if_pos]
    by_cases h0 : a < 0
    · exact .inr (.inr (.inl h0))
    · refine .inr (.inr (.inr ?_))
      show a / 128 ≠ 0
      omega

/-- the string of some octets -/
def octets (ns : List Int) : ByteArray := ⟨(ns.map fun n => UInt8.ofNat n.toNat).toArray⟩
theorem run_octets {P : Program} {src dst e : TypeId} (hs : P.underlying src = some (.slice e)) (he : P.underlying e = some (.int .u8)) (hd : P.underlying dst = some .string) (w : World) (a : Addr) (cap : Nat) (ns : List Int) (k : Nat) (hk : ns.length = k)
    (hn : ∀ n ∈ ns, 0 ≤ n ∧ n < 256) (hc : ∀ j (hj : j < ns.length), w.cell? (a.add j) = some (.int .u8 ns[j])) : (convert src dst (.slice (some a) k cap)).run P w = .ok (.string (octets ns)) w := by
  subst hk
  have := run_convert_bytes_back (P := P) w src dst e a cap (ns.map fun n => UInt8.ofNat n.toNat) hs he hd (fun j hj => by
    have hj' : j < ns.length := by simpa using hj
    rw [hc j hj']
    have := hn ns[j] (List.getElem_mem hj')
    simp only [List.getElem_map, UInt8.toNat_ofNat']
    congr 2
    omega)
  simpa [octets] using this

structure Msg where
  ty : Int
  ri : Int
  ai : Int
abbrev Msg.cells (m : Msg) : List Value := [.int .i64 m.ty, .int .i64 m.ri, .int .i64 m.ai]
def Msg.bad (m : Msg) : Int := if m.ty < 1 ∨ 7 < m.ty then 4 else if m.ri < 0 ∨ 65536 ≤ m.ri then 2 else if 0 ≤ m.ai ∧ m.ai ≤ 127 then 0 else 2

set_option maxRecDepth 100000 in
theorem m_put (m : Msg) (w0 w : World) (R : HP) (h : St w0 w R) :
    Calls Try.prog 43 #[.agg m.cells.toArray] w fun e w' => (∃ s, e = .returned (.tuple #[.string s, .int .i64 m.bad])) ∧ St w0 w' R := by
  obtain ⟨ty, ri, ai⟩ := m
  unfold Msg.bad
  simp only [Msg.cells]
  have h1 := (h.alloc (.cells #[.int .i64 ty, .int .i64 ri, .int .i64 ai] 29)).drop
  by_cases a : ty < 1
  · rw [if_pos (.inl a)]
    go_enter Try.func43, Try.ntmps43
    go_wp2
    go_ret2
    exact ⟨⟨_, rfl⟩, h1⟩
  by_cases b : 7 < ty
  · rw [if_pos (.inr b)]
    go_enter Try.func43, Try.ntmps43
    go_wp2
    go_ret2
    exact ⟨⟨_, rfl⟩, h1⟩
  rw [if_neg (by omega)]
  have a' : 1 ≤ ty := by omega
  have b' : ty ≤ 7 := by omega
  by_cases c : ri < 0
  · rw [if_pos (.inl c)]
    go_enter Try.func43, Try.ntmps43
    go_wp2
    go_ret2
    exact ⟨⟨_, rfl⟩, h1⟩
  by_cases d : 65536 ≤ ri
  · rw [if_pos (.inr d)]
    go_enter Try.func43, Try.ntmps43
    go_wp2
    go_ret2
    exact ⟨⟨_, rfl⟩, h1⟩
  rw [if_neg (by omega)]
  have c' : 0 ≤ ri := by omega
  have d' : ri < 65536 := by omega
  have h2 := h.alloc (.cells #[.int .i64 ty, .int .i64 ri, .int .i64 ai] 29)
  have h3 := (h2.alloc (.cells #[.int .i64 1, .int .i64 1, .int .i64 7, .int .i64 ai] 138))
  have h4 := St.row_mk (xs := pairC [(1, 1), (7, ai)]) (n := 2) (cap := 2) (sz := 2) (off := 0) h3 rfl (by decide) (by decide) (by simp) (fun j hj => by match j, hj with | 0, _ => rfl | 1, _ => rfl | 2, _ => rfl | 3, _ => rfl)
  have hs : (w.alloc (.cells #[.int .i64 ty, .int .i64 ri, .int .i64 ai] 29)).heap.size = w.heap.size + 1 := by simp
  rw [hs] at h4
  have hp := b_pack [(1, 1), (7, ai)] _ w0 _ _ h4 (by simp)
  rw [packs_17] at hp
  clear h1 h2 h3 h4 hs
  by_cases g : 0 ≤ ai ∧ ai ≤ 127
  · rw [if_pos g] at hp ⊢
    go_enter Try.func43, Try.ntmps43
    go_wp2_with fail
    refine hp.mono ?_
    rintro e w1 ⟨rfl, h5⟩
    have h6 := h5.drop
    have c := h6.cell
    clear hp
    have r1 : 0 ≤ ri / 256 := by omega
    have r2 : ri / 256 < 256 := by omega
    have r3 : 0 ≤ ri % 256 := by omega
    have r4 : ri % 256 < 256 := by omega
    have hc := run_octets (P := Try.prog) (src := 140) (dst := 9) (e := 5) Try.underlying140 Try.underlying5 Try.underlying9 (w1.alloc (.cells #[.int .u8 15, .int .u8 (ri / 256), .int .u8 (ri % 256), .int .u8 ty, .int .u8 (2 * ai + 1)] 5)) ⟨w1.heap.size, 0, none⟩ 5 [15, ri / 256, ri % 256, ty, 2 * ai + 1] 5 rfl
      (by intro n hn; simp at hn; omega) (by intro j hj; rw [add_none]; match j, hj with | 0, _ => simp | 1, _ => simp | 2, _ => simp | 3, _ => simp | 4, _ => simp)
    clear r1 r2 r3 r4
    go_wp2
    go_ret2
    exact ⟨⟨_, rfl⟩, (h6.alloc _).drop.drop⟩
  · rw [if_neg g] at hp ⊢
    go_enter Try.func43, Try.ntmps43
    go_wp2_with fail
    refine hp.mono ?_
    rintro e w1 ⟨rfl, h5⟩
    go_wp2
    go_ret2
    exact ⟨⟨_, rfl⟩, h5.drop.drop⟩
end Go.Proofs.Ytbnbknabedgpcaa
