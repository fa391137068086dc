/- The pool: Free; what a TEI is. -/
import Derived.Test.YtbnbknabedgpcaaPoolL
namespace Go.Proofs.Ytbnbknabedgpcaa
open Go.RowKit

theorem u64_andnot_pow (n i : Nat) (hn : n < 2 ^ 63) (hi : i ≤ 62) (ht : n.testBit i = true) : bits .andNot .u64 (n : Int) ((2 ^ i : Nat) : Int) = ((n ^^^ 2 ^ i : Nat) : Int) := by
  have h1 : 2 ^ i < 2 ^ 63 := Nat.pow_lt_pow_right (by decide) (by omega)
  have h2 : n ^^^ 2 ^ i < 2 ^ 63 := Nat.xor_lt_two_pow hn h1
  have key : (BitVec.ofInt 64 (n : Int) &&& ~~~ BitVec.ofInt 64 ((2 ^ i : Nat) : Int)).toNat = n ^^^ 2 ^ i := by
    rw [BitVec.ofInt_natCast, BitVec.ofInt_natCast]
    refine Nat.eq_of_testBit_eq fun j => ?_
    rw [BitVec.testBit_toNat, BitVec.getLsbD_and, BitVec.getLsbD_not, BitVec.getLsbD_ofNat, BitVec.getLsbD_ofNat, Nat.testBit_xor, Nat.testBit_two_pow]
    by_cases hj : j < 64
    · by_cases hij : i = j
      · subst hij
        simp [hj, ht]
      · simp [hj, hij]
    · have a1 : n.testBit j = false := Nat.testBit_lt_two_pow (Nat.lt_of_lt_of_le hn (Nat.pow_le_pow_right (by decide) (by omega)))
      have a2 : i ≠ j := by omega
      simp [hj, a1, a2]
  show IntKind.u64.wrap ((BitVec.ofInt 64 (n : Int) &&& ~~~ BitVec.ofInt 64 ((2 ^ i : Nat) : Int)).toNat : Nat) = _
  rw [key]
  generalize n ^^^ 2 ^ i = m at *
  show (m : Int) % 2 ^ 64 = _
  omega

def Pl.free (s : Pl) (tei : Int) : Pl × Bool := if s.has tei = true then (⟨s.on ^^^ 2 ^ (tei.toNat - 64), s.last⟩, true) else (s, false)

theorem p_free (p : Nat) (s : Pl) (tei : Int) (w0 w : World) (R : HP) (h : St w0 w (PAt p s * R)) (hn : s.on < 2 ^ 63) :
    Calls Try.prog 58 #[ptr p, .int .i64 tei] w fun e w' => e = .returned (.bool (s.free tei).2) ∧ St w0 w' (PAt p (s.free tei).1 * R) := by
  unfold Pl.free
  by_cases hh : s.has tei = true
  · rw [if_pos hh]
    have hh' := hh
    unfold Pl.has at hh'
    simp only [Bool.and_eq_true, decide_eq_true_eq] at hh'
    have e1 := u64_andnot_pow s.on (tei.toNat - 64) hn (by omega) hh'.2
    have hb := fun w => p_bit tei w
    simp only [if_pos hh'.1] at hb
    clear hh'
    generalize ((2 ^ (tei.toNat - 64) : Nat) : Int) = m at *
    go_enter Try.func58, Try.ntmps58
    go_wp2_with fail
    refine (p_has p s tei w0 _ _ h hn).mono ?_
    rintro e w1 ⟨rfl, n, rfl⟩
    rw [hh]
    have h2 := h.drewN n
    generalize w.drewN n = w1 at *
    have c := h2.cell
    have f := h2.free
    go_wp2
    go_region_with (first | (go_at_call 77; refine (hb _).mono ?_; rintro e wz ⟨rfl, rfl⟩))
    all_goals
      go_wp2
      go_ret
      first
        | exact ⟨rfl, (h2.drewN _).set 0 (.int .u64 ((s.on ^^^ 2 ^ (tei.toNat - 64) : Nat) : Int))⟩
        | exact ⟨rfl, h2.drew.set 0 (.int .u64 ((s.on ^^^ 2 ^ (tei.toNat - 64) : Nat) : Int))⟩
  · rw [if_neg hh]
    have hf : s.has tei = false := by simpa using hh
    go_enter Try.func58, Try.ntmps58
    go_wp2_with fail
    refine (p_has p s tei w0 _ _ h hn).mono ?_
    rintro e w1 ⟨rfl, n, rfl⟩
    rw [hf]
    go_wp2
    go_ret
    exact ⟨rfl, h.drewN n⟩

/-- what a TEI is -/
def kindOf (t : Int) : Int := if t < 0 ∨ 127 < t then 0 else if t < 64 then 1 else if t ≤ 126 then 2 else 3
theorem a_kind (t : Int) (w : World) : Calls Try.prog 66 #[.int .i64 t] w fun e w' => e = .returned (.int .i64 (kindOf t)) ∧ w = w' := by
  unfold kindOf
  by_cases a : t < 0
  · rw [if_pos (.inl a)]
    go_enter Try.func66, Try.ntmps66
    go_wp2
    go_ret
    exact ⟨rfl, rfl⟩
  by_cases b : 127 < t
  · rw [if_pos (.inr b)]
    go_enter Try.func66, Try.ntmps66
    go_wp2
    go_ret
    exact ⟨rfl, rfl⟩
  rw [if_neg (by omega)]
  have a' : ¬ t < 0 ∧ ¬ 127 < t := ⟨a, b⟩
  have ha : decide (t < 0) = false := by simpa using a
  have hb : decide (127 < t) = false := by simpa using b
  by_cases c : t < 64
  · rw [if_pos c]
    go_enter Try.func66, Try.ntmps66
    go_wp2
    go_ret
    exact ⟨rfl, rfl⟩
  rw [if_neg c]
  by_cases d : t ≤ 126
  · rw [if_pos d]
    go_enter Try.func66, Try.ntmps66
    go_wp2
    go_ret
    exact ⟨rfl, rfl⟩
  rw [if_neg d]
  go_enter Try.func66, Try.ntmps66
  go_wp2
  go_ret
  exact ⟨rfl, rfl⟩
end Go.Proofs.Ytbnbknabedgpcaa
