/- The mux: what it has; New, Join, Leave. -/
import Derived.Test.YtkcclijckpbobaaMuxP
import Derived.Test.YtkcclijckpbobaaMap
import Derived.Test.YtkcclijckpbobaaList
import Derived.Test.YtkcclijckpbobaaChecked
import Derived.DeepKeys4
namespace Go.Proofs.Ytkcclijckpbobaa
open Go.RowKit

abbrev ptrX (b : Nat) : Value := .pointer (some ⟨b, 0, none⟩)
abbrev lkC (k : Lk) : List Value := [.int .i64 k.1, .int .i64 k.2]
def okL (k : Lk) : Prop := (Lit.int .i64 k.1).wf = true ∧ (Lit.int .i64 k.2).wf = true
def kLk : KD Lk := ⟨fun k => .agg (lkC k).toArray, okL, fun a b h => by
  obtain ⟨a1, a2⟩ := a
  obtain ⟨b1, b2⟩ := b
  simpa using h⟩
abbrev vId (t : Int) : Value := .int .i64 t

theorem laidOutL : laidOutB Try.prog = true := by kernel_rfl
theorem lkRow : (38 : TypeId) < Try.prog.types.size := of_decide_eq_true (by kernel_rfl)
theorem lkWide : (match Try.prog.underlying 38 with | some (.array _ _) | some (.struct _) => true | _ => false) = true := by rw [Try.underlying38]
theorem lkAt : Try.prog.keyTypeAt 2 38 = true := by kernel_rfl
set_option maxRecDepth 100000 in
theorem lkLaw : WideMaps.KeyLaw Try.prog 38 := deep_law_laid laidOutL (m := 2) (by omega) lkRow lkAt lkWide
theorem lkCells : Try.prog.cellsOf 38 = 2 := by kernel_rfl
theorem intCellsL : Try.prog.cellsOf 3 = 1 := by kernel_rfl
theorem lkReads (k : Lk) (h : okL k) : ∃ l, keyOf Try.prog 38 (kLk.kv k) = some l := by
  obtain ⟨a, b⟩ := k
  obtain ⟨h1, h2⟩ := h
  simp only [] at h1 h2
  have hk : Try.prog.keyType 38 = true := by kernel_rfl
  obtain ⟨n, hn⟩ : ∃ n, Try.prog.types.size + 1 = n + 2 := ⟨Try.prog.types.size - 1, by have h : (38 : Nat) < Try.prog.types.size := lkRow; omega⟩
  unfold keyOf
  rw [Try.underlying38, hk, hn]
  simp [kLk, lkC, Value.formed, Try.underlying38, lkCells, Program.keyLits, Try.underlying3, intCellsL, h1, h2, Value.cells]

theorem tyWho : MTy Try.prog 57 38 3 kLk :=
  ⟨Try.underlying57, Maps.Keyed.of_law lkLaw, lkReads⟩
theorem zeroIntL (w : World) : (zeroValue 3).run Try.prog w = .ok (.int .i64 0) w := by kernel_rfl

/-- a mux: how many links may be; who has which -/
structure Mx where
  most : Int
  l : List En
def XAt (m : Nat) (x : Mx) : HP := hex fun b : Nat => blk m (.cells #[.int .i64 x.most, .map (some b)] 59 (0, 0)) * MAt kLk vId b x.l
structure Mx.Ok (x : Mx) : Prop where
  nd : (x.l.map (·.1)).Nodup
  rng : ∀ p ∈ x.l, 0 ≤ p.1.1 ∧ p.1.1 ≤ 63 ∧ 0 ≤ p.1.2 ∧ p.1.2 ≤ 126
  len : (x.l.length : Int) ≤ x.most
  m1 : 1 ≤ x.most
  m2 : x.most ≤ 128

section
variable {w0 w : World} {R : HP} {m : Nat} {x : Mx} {l : List En}
theorem St.x_open (h : St w0 w (XAt m x * R)) : ∃ b, St w0 w (blk m (.cells #[.int .i64 x.most, .map (some b)] 59 (0, 0)) * (MAt kLk vId b x.l * R)) := by
  obtain ⟨b, h⟩ := h.ex
  exact ⟨b, h.eq (star_assoc _ _ _)⟩
theorem St.x_shut {b : Nat} {most : Int} (h : St w0 w (blk m (.cells #[.int .i64 most, .map (some b)] 59 (0, 0)) * (MAt kLk vId b l * R))) : St w0 w (XAt m ⟨most, l⟩ * R) :=
  St.mk_ex b (h.eq (star_assoc _ _ _).symm)
theorem St.who {b : Nat} (h : St w0 w (MAt kLk vId b l * R)) (k : Lk) (hk : okL k) :
    (Instr.lookup 57 (.map (some b)) (.agg #[.int .i64 k.1, .int .i64 k.2]) true).run Try.prog w = .ok (.tuple #[.int .i64 ((mlook l k).getD 0), .bool (mlook l k).isSome]) w := by
  have := h.map_look tyWho k hk (zeroIntL _) true
  rw [show ((mlook l k).map vId).getD (.int .i64 0) = .int .i64 ((mlook l k).getD 0) by cases mlook l k <;> rfl] at this
  exact this
end

def mostOf (n : Int) : Int := max 1 (min n 128)
theorem x_new (n : Int) (w0 w : World) (R : HP) (h : St w0 w R) :
    Calls Try.prog 17 #[.int .i64 n] w fun e w' => ∃ m, e = .returned (ptrX m) ∧ St w0 w' (XAt m ⟨mostOf n, []⟩ * R) := by
  have hmm := @run_makeMap Try.prog
  have h2 := h.map_new kLk vId
  have h3 := h2.alloc (.cells #[.int .i64 (mostOf n), .map (some w.heap.size)] 59)
  simp only [World.size_alloc] at h3
  have H3 := Lib.hid h3
  clear h h2 h3
  go_enter Try.func17, Try.ntmps17
  go_wp2
  all_goals go_ret
  all_goals first
    | (have e : mostOf n = n := by (unfold mostOf; omega)
       rw [e] at H3 ⊢; exact ⟨_, rfl, H3.out.x_shut⟩)
    | (have e : mostOf n = 1 := by (unfold mostOf; omega)
       rw [e] at H3 ⊢; exact ⟨_, rfl, H3.out.x_shut⟩)
    | (have e : mostOf n = 128 := by (unfold mostOf; omega)
       rw [e] at H3 ⊢; exact ⟨_, rfl, H3.out.x_shut⟩)

/-- Join's answer -/
def Mx.join (x : Mx) (k : Lk) (id : Int) : Mx × Int :=
  if k.1 < 0 ∨ 63 < k.1 ∨ k.2 < 0 ∨ 126 < k.2 then (x, 2)
  else if (mlook x.l k).isSome = true then (x, 13)
  else if x.most ≤ x.l.length then (x, 10)
  else (⟨x.most, mput x.l k id⟩, 0)
def Mx.leave (x : Mx) (k : Lk) : Mx × Bool := (⟨x.most, mdel x.l k⟩, (mlook x.l k).isSome)

set_option maxRecDepth 100000 in
theorem x_join (m : Nat) (x : Mx) (k : Lk) (hk : okL k) (id : Int) (hlen : x.l.length ≤ 100000) (w0 w : World) (R : HP) (h : St w0 w (XAt m x * R)) :
    Calls Try.prog 14 #[ptrX m, .agg #[.int .i64 k.1, .int .i64 k.2], .int .i64 id] w fun e w' => e = .returned (.int .i64 (x.join k id).2) ∧ St w0 w' (XAt m (x.join k id).1 * R) := by
  obtain ⟨k1, k2⟩ := k
  have h1 := h.alloc (.cells #[.int .i64 k1, .int .i64 k2] 38)
  unfold Mx.join
  simp only []
  by_cases b1 : k1 < 0
  · rw [if_pos (by simp [b1])]
    go_enter Try.func14, Try.ntmps14
    go_wp2
    go_ret
    exact ⟨rfl, h1.drop⟩
  have b1' : decide (k1 < 0) = false := by simpa using b1
  by_cases b2 : 64 ≤ k1
  · have b2' : decide (64 ≤ k1) = true := by simpa using b2
    rw [if_pos (by omega)]
    go_enter Try.func14, Try.ntmps14
    go_wp2
    go_ret
    exact ⟨rfl, h1.drop⟩
  have b2' : decide (64 ≤ k1) = false := by simpa using b2
  by_cases b3 : k2 < 0
  · rw [if_pos (by simp [b3])]
    go_enter Try.func14, Try.ntmps14
    go_wp2
    go_ret
    exact ⟨rfl, h1.drop⟩
  have b3' : decide (k2 < 0) = false := by simpa using b3
  by_cases b4 : 126 < k2
  · rw [if_pos (by simp [b4])]
    go_enter Try.func14, Try.ntmps14
    go_wp2
    go_ret
    exact ⟨rfl, h1.drop⟩
  have b4' : decide (126 < k2) = false := by simpa using b4
  rw [if_neg (by omega)]
  obtain ⟨b, h2⟩ := h1.f2.x_open
  have c2 := h2.cell
  have c3 := h2.f3.cell
  have hl := fun n => (h2.drewN n).f2.who (k1, k2) hk
  simp only [] at hl
  cases hm : mlook x.l (k1, k2) with
  | some u =>
    rw [hm] at hl
    simp only [Option.isSome_some, if_true]
    simp only [Option.getD_some, Option.isSome_some] at hl
    have H1 := Lib.hid h1
    clear h1 h2 h
    go_enter Try.func14, Try.ntmps14
    go_upto_region 5 with fail
    generalize w.alloc _ = w2 at *
    go_quiet (fail)
    go_wp2
    go_ret
    exact ⟨rfl, (H1.out.drewN _).drop⟩
  | none =>
    rw [hm] at hl
    simp only [Option.isSome_none, Bool.false_eq_true, if_false]
    simp only [Option.getD_none, Option.isSome_none] at hl
    have H2 := Lib.hid h2
    obtain ⟨mo, l⟩ := x
    simp only [] at *
    obtain ⟨n, hn⟩ : ∃ n : Int, (l.length : Int) = n := ⟨_, rfl⟩
    rw [hn]
    have HN := Lib.hid hn
    clear hn hlen h1 h2 h hm
    by_cases b5 : mo ≤ n
    · rw [if_pos b5]
      have b5' : decide (mo ≤ n) = true := by simpa using b5
      clear b5
      go_enter Try.func14, Try.ntmps14
      go_upto_region 5 with fail
      generalize w.alloc _ = w2 at *
      generalize w.heap.size = ga at *
      go_quiet (fail)
      have h4 := H2.out.drewN nq
      clear c2 c3 hl
      generalize w2.drewN nq = w4 at *
      clear H2 nq
      have c2 := h4.cell
      have c3 := h4.f3.cell
      have hln := fun m ty => (h4.drewN m).f2.map_len tyWho.ht ty
      rw [HN.out] at hln
      go_upto_region 8 with fail
      go_quiet (fail)
      go_wp2
      go_ret
      exact ⟨rfl, (h4.drewN _).f3.drop.x_shut⟩
    · rw [if_neg b5]
      have b5' : decide (mo ≤ n) = false := by simpa using b5
      clear b5
      go_enter Try.func14, Try.ntmps14
      go_upto_region 5 with fail
      generalize w.alloc _ = w2 at *
      generalize w.heap.size = ga at *
      go_quiet (fail)
      have h4 := H2.out.drewN nq
      clear c2 c3 hl
      generalize w2.drewN nq = w4 at *
      clear H2 nq
      have c2 := h4.cell
      have c3 := h4.f3.cell
      have hln := fun m ty => (h4.drewN m).f2.map_len tyWho.ht ty
      rw [HN.out] at hln
      go_upto_region 8 with fail
      go_quiet (fail)
      have h5 := h4.drewN nq
      clear c2 c3 hln
      generalize w4.drewN nq = w5 at *
      have c2 := h5.cell
      have c3 := h5.f3.cell
      go_upto_region 10 with fail
      go_still_tail 6, (by kernel_rfl)
      change wpList _ _ _ _ _ w5.drew
      have h6 := h5.drew
      clear c2 c3 h5
      generalize w5.drew = w6 at *
      go_wp2_with (at_mapUpdate; refine wp_mput rfl (.tmp 54) (.tmp 55) (.tmp 56) 57 rfl tyWho h6.f2 rfl (k1, k2) rfl hk id rfl ?_; intro w7 h8)
      go_ret
      exact ⟨rfl, h8.f2.f3.drop.x_shut⟩

set_option maxRecDepth 100000 in
theorem x_leave (m : Nat) (x : Mx) (k : Lk) (hk : okL k) (w0 w : World) (R : HP) (h : St w0 w (XAt m x * R)) :
    Calls Try.prog 15 #[ptrX m, .agg #[.int .i64 k.1, .int .i64 k.2]] w fun e w' => e = .returned (.bool (x.leave k).2) ∧ St w0 w' (XAt m (x.leave k).1 * R) := by
  obtain ⟨k1, k2⟩ := k
  have h1 := h.alloc (.cells #[.int .i64 k1, .int .i64 k2] 38)
  obtain ⟨b, h2⟩ := h1.f2.x_open
  have c2 := h2.cell
  have c3 := h2.f3.cell
  have hl := fun n => (h2.drewN n).f2.who (k1, k2) hk
  simp only [] at hl
  unfold Mx.leave
  simp only []
  obtain ⟨r, hr⟩ : ∃ r, (mlook x.l (k1, k2)).isSome = r := ⟨_, rfl⟩
  rw [hr] at hl ⊢
  have H2 := Lib.hid h2
  clear h1 h2 h
  go_enter Try.func15, Try.ntmps15
  go_upto_region 3 with fail
  generalize w.alloc _ = w2 at *
  generalize w.heap.size = ga at *
  go_quiet (fail)
  have h4 := H2.out.drewN nq
  clear c2 c3 hl
  generalize w2.drewN nq = w4 at *
  clear H2 nq
  have c2 := h4.cell
  have c3 := h4.f3.cell
  go_upto_region 4 with fail
  go_still_tail 5, (by kernel_rfl)
  change wpList _ _ _ _ _ w4.drew
  have h6 := h4.drew
  clear c2 c3 h4
  generalize w4.drew = w6 at *
  go_wp2_with (at_delete; refine wp_mdel rfl (.tmp 21) (.tmp 22) 57 38 rfl tyWho h6.f2 rfl (k1, k2) rfl hk ?_; intro w7 h8)
  go_ret
  exact ⟨rfl, h8.f2.f3.drop.x_shut⟩
end Go.Proofs.Ytkcclijckpbobaa
