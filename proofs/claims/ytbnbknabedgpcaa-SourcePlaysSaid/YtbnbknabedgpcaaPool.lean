/- The pool of TEIs. -/
import Derived.Test.YtbnbknabedgpcaaRow
import Derived.Test.YtbnbknabedgpcaaChecked
import Derived.StillTailTactics
namespace Go.Proofs.Ytbnbknabedgpcaa
open Go.RowKit

theorem u64_pow (i : Nat) (h : i ≤ 62) : IntKind.u64.wrap ((2 ^ i : Nat) : Int) = ((2 ^ i : Nat) : Int) := by
  have h1 : 2 ^ i ≤ 2 ^ 62 := Nat.pow_le_pow_right (by decide) h
  generalize 2 ^ i = m at *
  show (m : Int) % 2 ^ 64 = _
  omega

theorem p_bit (tei : Int) (w : World) : Calls Try.prog 77 #[.int .i64 tei] w fun e w' => e = .returned (.int .u64 (if 64 ≤ tei ∧ tei ≤ 126 then ((2 ^ (tei.toNat - 64) : Nat) : Int) else 0)) ∧ w = w' := by
  by_cases a : 64 ≤ tei
  · by_cases b : tei ≤ 126
    · rw [if_pos ⟨a, b⟩]
      have e1 : (tei - 64).toNat = tei.toNat - 64 := by omega
      have e2 := u64_pow (tei.toNat - 64) (by omega)
      have E1 := Lib.hid e1
      have E2 := Lib.hid e2
      clear e1 e2
      go_enter Try.func77, Try.ntmps77
      go_wp2
      go_ret
      refine ⟨?_, rfl⟩
      have := E2.out
      rw [← E1.out] at this ⊢
      simp only [Int.natCast_pow] at this ⊢
      exact congrArg (fun x => Ending.returned (.int .u64 x)) this
    · rw [if_neg (by omega)]
      go_enter Try.func77, Try.ntmps77
      go_wp2
      all_goals
        go_ret
        exact ⟨rfl, rfl⟩
  · rw [if_neg (by omega)]
    go_enter Try.func77, Try.ntmps77
    go_wp2
    all_goals
      go_ret
      exact ⟨rfl, rfl⟩

theorem and_pow (n i : Nat) : n &&& 2 ^ i = if n.testBit i then 2 ^ i else 0 := by
  refine Nat.eq_of_testBit_eq fun j => ?_
  by_cases h : i = j
  · subst h
    cases hb : n.testBit i <;> simp [Nat.testBit_and, Nat.testBit_two_pow, hb]
  · cases hb : n.testBit i <;> simp [Nat.testBit_and, Nat.testBit_two_pow, h]

theorem u64_and_pow (n i : Nat) (hn : n < 2 ^ 64) (hi : i ≤ 62) : bits .and .u64 (n : Int) ((2 ^ i : Nat) : Int) = if n.testBit i then ((2 ^ i : Nat) : Int) else 0 := by
  have h1 : 2 ^ i ≤ 2 ^ 62 := Nat.pow_le_pow_right (by decide) hi
  have key : (BitVec.ofInt 64 (n : Int) &&& BitVec.ofInt 64 ((2 ^ i : Nat) : Int)).toNat = if n.testBit i then 2 ^ i else 0 := by
    rw [← and_pow]
    generalize 2 ^ i = m at *
    rw [BitVec.toNat_and, BitVec.toNat_ofInt, BitVec.toNat_ofInt]
    congr 1 <;> omega
  show IntKind.u64.wrap ((BitVec.ofInt 64 (n : Int) &&& BitVec.ofInt 64 ((2 ^ i : Nat) : Int)).toNat : Nat) = _
  rw [key]
  cases n.testBit i
  · rfl
  · simp only [if_true]
    exact u64_pow i hi

abbrev ptr (b : Nat) : Value := .pointer (some ⟨b, 0, none⟩)
theorem quiet_left {P : Program} {f : FuncId} {args : Array Value} {w : World} {n : Nat} {v : Value}
    (h : Calls P f args (w.drewN n) fun e w' => e = .returned v ∧ w.drewN n = w') : Calls P f args (w.drewN n) fun e w'' => e = .returned v ∧ ∃ m, w'' = w.drewN m :=
  h.mono fun _ _ ⟨he, hm⟩ => ⟨he, n, hm.symm⟩

/-- The pool: which are assigned, a bit each; the one that was told last. -/
structure Pl where
  on : Nat
  last : Nat
def Pl.has (p : Pl) (tei : Int) : Bool := decide (64 ≤ tei ∧ tei ≤ 126) && p.on.testBit (tei.toNat - 64)
def PAt (p : Nat) (s : Pl) : HP := blk p (.cells #[.int .u64 s.on, .int .i64 s.last] 135 (0, 0))

theorem p_has (p : Nat) (s : Pl) (tei : Int) (w0 w : World) (R : HP) (h : St w0 w (PAt p s * R)) (hn : s.on < 2 ^ 63) :
    Calls Try.prog 65 #[ptr p, .int .i64 tei] w fun e w' => e = .returned (.bool (s.has tei)) ∧ ∃ n, w' = w.drewN n := by
  have c := h.cell
  have hb := fun n => p_bit tei (w.drewN n)
  unfold Pl.has
  by_cases a : 64 ≤ tei ∧ tei ≤ 126
  · have e1 := u64_and_pow s.on (tei.toNat - 64) (by omega) (by omega)
    simp only [if_pos a] at hb
    have h0 : (((2 ^ (tei.toNat - 64) : Nat) : Int) == 0) = false := by
      have := Nat.two_pow_pos (tei.toNat - 64)
      generalize 2 ^ (tei.toNat - 64) = m at *
      simp
      omega
    simp only [a.1, a.2, and_self, decide_true, Bool.true_and]
    clear a hn
    generalize ((2 ^ (tei.toNat - 64) : Nat) : Int) = m at *
    cases hx : s.on.testBit (tei.toNat - 64)
    all_goals
      simp only [hx, if_true, if_false, Bool.false_eq_true] at e1
      clear hx
      go_enter Try.func65, Try.ntmps65
      go_wp2
      go_quiet ((go_at_call 77; exact quiet_left (hb _)))
      go_wp2
      go_ret
      first | exact ⟨rfl, _, rfl⟩ | exact ⟨by simp [bne, h0], _, rfl⟩
  · have e1 : bits .and .u64 (s.on : Int) 0 = 0 := by
      show IntKind.u64.wrap ((BitVec.ofInt 64 (s.on : Int) &&& BitVec.ofInt 64 0).toNat : Nat) = 0
      rw [show BitVec.ofInt 64 0 = 0#64 from rfl, BitVec.and_zero]
      rfl
    simp only [if_neg a] at hb
    rw [show decide (64 ≤ tei ∧ tei ≤ 126) = false by simpa using a]
    clear a hn
    go_enter Try.func65, Try.ntmps65
    go_wp2
    go_quiet ((go_at_call 77; exact quiet_left (hb _)))
    go_wp2
    go_ret
    exact ⟨rfl, _, rfl⟩

theorem u64_or_pow (n i : Nat) (hn : n < 2 ^ 63) (hi : i ≤ 62) : bits .or .u64 (n : Int) ((2 ^ i : Nat) : Int) = ((n ||| 2 ^ i : Nat) : Int) := by
  have h1 : 2 ^ i < 2 ^ 63 := Nat.pow_lt_pow_right (by decide) (by omega)
  have h2 : n ||| 2 ^ i < 2 ^ 63 := Nat.or_lt_two_pow hn h1
  have key : (BitVec.ofInt 64 (n : Int) ||| BitVec.ofInt 64 ((2 ^ i : Nat) : Int)).toNat = n ||| 2 ^ i := by
    generalize 2 ^ i = m at *
    rw [BitVec.toNat_or, BitVec.toNat_ofInt, BitVec.toNat_ofInt]
    congr 1 <;> omega
  show IntKind.u64.wrap ((BitVec.ofInt 64 (n : Int) ||| BitVec.ofInt 64 ((2 ^ i : Nat) : Int)).toNat : Nat) = _
  rw [key]
  generalize n ||| 2 ^ i = m at *
  show (m : Int) % 2 ^ 64 = _
  omega

theorem p_new (w0 w : World) (R : HP) (h : St w0 w R) :
    Calls Try.prog 42 #[] w fun e w' => ∃ p, e = .returned (ptr p) ∧ St w0 w' (PAt p ⟨0, 62⟩ * R) := by
  go_enter Try.func42, Try.ntmps42
  go_wp2
  go_ret
  exact ⟨_, rfl, h.alloc (.cells #[.int .u64 0, .int .i64 62] 135)⟩

/-- Assign's search. -/
def Pl.seek : Nat → Pl → Pl × Int × Int
  | 0, s => (s, 0, 10)
  | k + 1, s => if s.on.testBit ((s.last + 1) % 63) then Pl.seek k ⟨s.on, (s.last + 1) % 63⟩ else (⟨s.on ||| 2 ^ ((s.last + 1) % 63), (s.last + 1) % 63⟩, 64 + (((s.last + 1) % 63 : Nat) : Int), 0)
theorem p_assign (p : Nat) (s : Pl) (w0 w : World) (R : HP) (h : St w0 w (PAt p s * R)) (hn : s.on < 2 ^ 63) (hl : s.last ≤ 62) :
    Calls Try.prog 69 #[ptr p] w fun e w' => e = .returned (.tuple #[.int .i64 (Pl.seek 63 s).2.1, .int .i64 (Pl.seek 63 s).2.2]) ∧ St w0 w' (PAt p (Pl.seek 63 s).1 * R) := by
  generalize hS : Pl.seek 63 s = res
  have HS := Lib.hid hS
  clear hS
  go_enter Try.func69, Try.ntmps69
  go_wp2
  go_loopw [7] (fun i wr => ∃ (k : Nat) (t : Pl), k ≤ 63 ∧ i = .int .i64 k ∧ t.on = s.on ∧ t.last ≤ 62 ∧ Hid (Pl.seek (63 - k) t = res) ∧ St w0 wr (PAt p t * R)) (fun i _ => 63 - (intOf i).toNat)
  case atStart => exact ⟨0, s, by omega, rfl, rfl, hl, HS, h⟩
  case round =>
    clear h
    obtain ⟨k, ⟨on, last⟩, hk, rfl, ho, hl2, He, h1⟩ := hrel
    have he := He.out
    simp only [] at ho hl2
    subst ho
    by_cases hlt : k < 63
    · obtain ⟨l, el⟩ : ∃ l : Nat, l = (last + 1) % 63 := ⟨_, rfl⟩
      have l1 : l ≤ 62 := by omega
      have x1 : ((last : Int) + 1) % 63 = (l : Int) := by omega
      have x2 : Int.tmod ((last : Int) + 1) 63 = (l : Int) := by rw [Int.tmod_eq_emod_of_nonneg (by omega)]; exact x1
      have hs : Pl.seek (63 - k) ⟨s.on, last⟩ = if s.on.testBit l then Pl.seek (63 - (k + 1)) ⟨s.on, l⟩ else (⟨s.on ||| 2 ^ l, l⟩, 64 + (l : Int), 0) := by
        rw [show 63 - k = (63 - (k + 1)) + 1 by omega, Pl.seek, ← el]
      rw [hs] at he
      have c1 := h1.cell
      have f1 := h1.free
      have h2 : St w0 _ (PAt p ⟨s.on, l⟩ * R) := h1.set 1 (.int .i64 (l : Int))
      have c2 := h2.cell
      have f2 := h2.free
      have hb := fun w => p_bit (64 + (l : Int)) w
      simp only [show (64 : Int) ≤ 64 + (l : Int) ∧ 64 + (l : Int) ≤ 126 by omega, and_self, if_true, show (64 + (l : Int)).toNat - 64 = l by omega] at hb
      have e1 := u64_and_pow s.on l (by omega) l1
      have e2 := u64_or_pow s.on l hn l1
      have h0 : (((2 ^ l : Nat) : Int) == 0) = false := by
        have := Nat.two_pow_pos l
        generalize 2 ^ l = m at *
        simp
        omega
      have H2 := Lib.hid h2
      clear hs h2 h1 el HS He x1
      cases hx : s.on.testBit l
      · simp only [hx, if_true, if_false, Bool.false_eq_true] at e1 he
        have h3 : St w0 _ (PAt p ⟨s.on ||| 2 ^ l, l⟩ * R) := H2.out.set 0 (.int .u64 ((s.on ||| 2 ^ l : Nat) : Int))
        have H3 := Lib.hid h3
        subst he
        clear hx h3
        generalize ((2 ^ l : Nat) : Int) = m at *
        go_wp2
        go_quiet ((go_at_call 77; exact quiet_left (hb _)))
        go_wp2
        go_region_with (first | (go_at_call 77; refine (hb _).mono ?_; rintro e wz ⟨rfl, rfl⟩))
        all_goals
          go_wp2
          go_ret2
          first
            | exact ⟨rfl, ((H2.out.drewN _).drewN _).set 0 (.int .u64 ((s.on ||| 2 ^ l : Nat) : Int))⟩
            | exact ⟨rfl, (H2.out.drewN _).drew.set 0 (.int .u64 ((s.on ||| 2 ^ l : Nat) : Int))⟩
            | exact ⟨rfl, (H2.out.drewN _).set 0 (.int .u64 ((s.on ||| 2 ^ l : Nat) : Int))⟩
      · simp only [hx, if_true, if_false] at e1 he
        have HE := Lib.hid he
        clear hx he
        generalize ((2 ^ l : Nat) : Int) = m at *
        go_wp2
        go_quiet ((go_at_call 77; exact quiet_left (hb _)))
        go_wp2
        go_roundw
        case rel => exact ⟨k + 1, ⟨s.on, l⟩, by omega, by go_num, rfl, l1, HE, H2.out.drewN _⟩
        case measure => simp [intOf]; omega
    · have : k = 63 := by omega
      subst this
      simp only [Nat.sub_self, Pl.seek] at he
      subst he
      go_wp2
      go_ret2
      exact ⟨rfl, h1⟩
end Go.Proofs.Ytbnbknabedgpcaa
