/- The octets of bits: bits.Good, bits.Octets. The decoder of frames: flag, bit, Feed. The decoder of frames: a bit more. -/
import Derived.Test.YtnnahljdhdippaaGreatDoorB18
import Derived.Test.YtnnahljdhdippaaGreatDoorB1
import Derived.Shelf.Strings.SlTrimAscii
import Derived.Laws.MakeOwn
import Derived.Test.YtnnahljdhdippaaGreatDoorB2
namespace Go.Proofs.YtnnahljdhdippaaGreatDoor
open Go.RowKit

theorem trim_bits (l : List Bool) : Lib.trimS (l.map bch) [48, 49] = [] := by
  have hc : ∀ b : Bool, ([48, 49] : List UInt8).contains (bch b) = true := by decide
  have hd : ∀ l : List UInt8, (∀ x ∈ l, ([48, 49] : List UInt8).contains x = true) → l.dropWhile (([48, 49] : List UInt8).contains ·) = [] := fun l => by
    induction l with
    | nil => intro _; rfl
    | cons x l ih =>
      intro h
      rw [List.dropWhile_cons, if_pos (h x (by simp))]
      exact ih (fun y hy => h y (by simp [hy]))
  have h1 : Lib.trimRightS (l.map bch) [48, 49] = [] := by
    unfold Lib.trimRightS
    rw [hd _ (fun x hx => by
      rw [List.mem_reverse, List.mem_map] at hx
      obtain ⟨b, _, rfl⟩ := hx
      exact hc b)]
    rfl
  unfold Lib.trimS
  rw [h1]
  rfl
theorem bt_good (l : List Bool) (w0 w : World) (R : HP) (h : St w0 w R) (hl : l.length ≤ 100000000) :
    Calls Tryz.prog 242 #[.string (bstr l)] w fun e w' => e = .returned (.bool true) ∧ St w0 w' R := by
  have hz := bstr_size l
  have ht := Any.strings_Trim_laid layTrim (by kernel_rfl) (bstr l) ⟨#[48, 49]⟩ w (by omega) (by decide) (ascii_of_all (by decide))
  rw [bstr_list, show (⟨#[48, 49]⟩ : ByteArray).data.toList = [48, 49] from rfl, trim_bits] at ht
  have ht2 : Calls Tryz.prog 273 #[.string (bstr l), .string ⟨#[48, 49]⟩] w fun e w' => e = .returned (.string ⟨#[]⟩) ∧ Below w.heap.size w w' := ht
  clear ht
  go_enter Tryz.func242, Tryz.ntmps242
  go_wp2_with fail
  refine ht2.mono ?_
  rintro e w1 ⟨rfl, hb⟩
  go_wp2
  go_ret
  exact ⟨rfl, h.below hb (Nat.le_refl _)⟩
def pvArr (l : List Bool) (m i : Nat) : Array Value := ((List.range m).map fun t => Value.int .u8 (pv l t i : Nat)).toArray
theorem pvArr_at (l : List Bool) (m i t : Nat) : (pvArr l m i)[t]? = if t < m then some (.int .u8 (pv l t i : Nat)) else none := by
  unfold pvArr
  by_cases h : t < m
  · rw [if_pos h]
    simp [h]
  · rw [if_neg h]
    simp [h]
theorem pvArr_set (l : List Bool) (m i : Nat) (h : i / 8 < m) : (pvArr l m i).setIfInBounds (i / 8) (.int .u8 (pv l (i / 8) (i + 1) : Nat)) = pvArr l m (i + 1) := by
  apply Array.ext_getElem?
  intro t
  rw [Array.getElem?_setIfInBounds, pvArr_at, pvArr_at]
  by_cases ht : i / 8 = t
  · subst ht
    rw [if_pos rfl, if_pos h, if_pos (by unfold pvArr; simp; exact h)]
  · rw [if_neg ht]
    by_cases h2 : t < m
    · rw [if_pos h2, if_pos h2, pv_other (by omega)]
    · rw [if_neg h2, if_neg h2]
theorem pvArr_zero (l : List Bool) (m : Nat) : madeCells #[.int .u8 0] m = pvArr l m 0 := by
  apply Array.ext_getElem?
  intro t
  rw [pvArr_at]
  by_cases h2 : t < m
  · rw [if_pos h2, pv_zero]
    unfold madeCells
    simp [h2, Nat.mod_one]
  · rw [if_neg h2]
    unfold madeCells
    simp [h2]
theorem or_bit : ∀ (k : Fin 8) (b : Bool) (p : Fin 128), (p : Nat) < 2 ^ (k : Nat) → bits .or .u8 ((p : Nat) : Int) (((bitN b * 2 ^ (k : Nat) : Nat)) : Int) = ((p : Nat) + bitN b * 2 ^ (k : Nat) : Nat) := by decide +kernel
set_option maxRecDepth 100000 in
set_option maxHeartbeats 3200000 in
theorem bt_octets (l : List Bool) (m : Nat) (hm : l.length = 8 * m) (hl : m ≤ 10000000) (w0 w : World) (R : HP) (h : St w0 w R) :
    Calls Tryz.prog 206 #[.string (bstr l)] w fun e w' => e = .returned (.tuple #[.string ⟨(octs l).toArray⟩, .int .i64 0]) ∧ St w0 w' R := by
  have hz : (bstr l).size = 8 * m := (bstr_size l).trans hm
  have hg := bt_good l w0 w R h (by omega)
  have hat := bstr_at l
  have hbig : ∀ b : Bool, ((bch b).toNat : Int) = 48 + (bitN b : Nat) := by decide
  obtain ⟨i0, hi, hz0, hz1, hz2⟩ := info_parts bExtra.infoByte
  have hmk : ∀ v, (Instr.makeSlice 121 (.int .i64 (m : Int)) (.int .i64 (m : Int))).run Tryz.prog v = .ok (.slice (some ⟨v.heap.size, 0, none⟩) m m) (v.alloc (.cells (pvArr l m 0) 5)) := fun v => by
    have := run_makeSlice (P := Tryz.prog) (w := v) 121 5 i0 (.int .u8 0) Tryz.underlying121 hi hz0 .i64 .i64 m m (by omega) (by omega) (by rw [hz1]; simp; omega) (by rw [hz2]; omega) (by omega)
    rw [hz1] at this
    simp only [Int.toNat_natCast, Nat.mul_one] at this
    rw [← pvArr_zero]
    exact this
  have HM := Lib.hid hm
  generalize bstr l = s at *
  obtain ⟨n, hn⟩ : ∃ n, 8 * m = n := ⟨_, rfl⟩
  rw [hn] at hz
  have q1 : Int.tmod (n : Int) 8 = 0 := by rw [Int.tmod_eq_emod_of_nonneg (by omega)]; omega
  have q2 : Int.tdiv (n : Int) 8 = (m : Int) := by rw [Int.tdiv_eq_ediv_of_nonneg (by omega)]; omega
  have HNN := Lib.hid hn
  have hn9 : n ≤ 100000000 := by omega
  clear hm hn hi hz0 hz1 hz2
  go_enter Tryz.func206, Tryz.ntmps206
  go_wp2_with fail
  refine hg.mono ?_
  rintro e w1 ⟨rfl, h1⟩
  clear hg
  have h2 := h1.alloc (.cells (pvArr l m 0) 5)
  go_upto_region 6 with fail
  generalize w1.alloc _ = w2 at *
  generalize w1.heap.size = g at *
  clear h1 hmk q1 q2
  go_wp2
  go_loopw [21] (fun s21 wr => ∃ i : Nat, i ≤ n ∧ s21 = .int .i64 i ∧ St w0 wr (blk g (.cells (pvArr l m i) 5 (0, 0)) * R)) (fun s21 _ => n - (intOf s21).toNat)
  case atStart => exact ⟨0, by omega, rfl, h2⟩
  case round =>
    clear h2
    obtain ⟨i, hi, rfl, h3⟩ := hrel
    by_cases hlt : i < n
    · have hin : (i : Int) < (n : Int) := by omega
      have hil : i < l.length := by rw [HM.out, HNN.out]; exact hlt
      obtain ⟨b, hb⟩ : ∃ b, l[i]? = some b := ⟨l[i], List.getElem?_eq_getElem hil⟩
      have hx := hat i b hb
      have hbd : l.getD i false = b := by rw [List.getD_eq_getElem?_getD, hb]; rfl
      have hjm : i / 8 < m := by have := HNN.out; omega
      obtain ⟨p1, p2⟩ := pv_step l i
      rw [hbd] at p2
      have c := (h3.cell (i / 8)).trans (by rw [pvArr_at, if_pos hjm])
      have f := h3.free (i / 8)
      have h4 := h3.drew.set (i / 8) (.int .u8 (pv l (i / 8) (i + 1) : Nat))
      rw [pvArr_set l m i hjm] at h4
      have qd : Int.tdiv (i : Int) 8 = ((i / 8 : Nat) : Int) := by rw [Int.tdiv_eq_ediv_of_nonneg (by omega)]; omega
      have qm : Int.tmod (i : Int) 8 = ((i % 8 : Nat) : Int) := by rw [Int.tmod_eq_emod_of_nonneg (by omega)]; omega
      have hjm2 : ((i / 8 : Nat) : Int) < (m : Int) := by omega
      have hr8 : i % 8 < 8 := Nat.mod_lt _ (by decide)
      have ha : bits .and .u8 ((bch b).toNat : Int) 1 = ((bitN b : Nat) : Int) := by cases b <;> decide
      have wj : IntKind.i64.wrap ((i / 8 : Nat) : Int) = ((i / 8 : Nat) : Int) := by rw [IntKind.wrap_i64]; have := HNN.out; omega
      have wr8 : IntKind.i64.wrap ((i % 8 : Nat) : Int) = ((i % 8 : Nat) : Int) := by rw [IntKind.wrap_i64]; omega
      have j0 : 0 ≤ ((i / 8 : Nat) : Int) := by omega
      have r0 : 0 ≤ ((i % 8 : Nat) : Int) := by omega
      have r8 : ((i % 8 : Nat) : Int) < 8 := by omega
      generalize i / 8 = j at *
      generalize i % 8 = r at *
      generalize pv l j i = x at *
      generalize pv l j (i + 1) = y at *
      have hv : bits .or .u8 (x : Int) (IntKind.u8.wrap (((bitN b : Nat) : Int) * 2 ^ r)) = (y : Int) := by
        have hx2 : x < 128 := by
          have : 2 ^ r ≤ 2 ^ 7 := Nat.pow_le_pow_right (by decide) (by omega)
          omega
        have hb1 : bitN b ≤ 1 := by cases b <;> decide
        have hp7 : 2 ^ r ≤ 128 := Nat.pow_le_pow_right (show 0 < 2 by decide) (show r ≤ 7 by omega)
        have hmul : bitN b * 2 ^ r ≤ 128 := by
          have := Nat.mul_le_mul hb1 hp7
          omega
        have h1 := or_bit ⟨r, hr8⟩ b ⟨x, hx2⟩ p1
        simp only [] at h1
        have hcast : ((bitN b : Nat) : Int) * 2 ^ r = ((bitN b * 2 ^ r : Nat) : Int) := by push_cast; rfl
        rw [hcast, show IntKind.u8.wrap ((bitN b * 2 ^ r : Nat) : Int) = ((bitN b * 2 ^ r : Nat) : Int) from by rw [IntKind.wrap_u8]; omega, h1, p2]
      clear hat hb hbd hbig p1 p2
      go_upto_region 9 with fail
      have cd := (h3.drew.cell j).trans ((h3.cell j).symm.trans c)
      have fd := h3.drew.free j
      go_still_tail 14, (by kernel_rfl)
      change wpList _ _ _ _ _ wr.drew
      clear c f h3 hx ha
      generalize wr.drew = wd at *
      go_wp2
      go_roundw
      case rel => exact ⟨i + 1, by omega, by go_num, h4⟩
      case measure => simp [intOf]; omega
    · obtain rfl : i = n := by omega
      obtain ⟨e1, e2⟩ := octs_len m l HM.out
      have hi8 := HNN.out
      have hq := run_convert_bytes_back (P := Tryz.prog) wr 121 9 5 ⟨g, 0, none⟩ m (octs l) Tryz.underlying121 Tryz.underlying5 Tryz.underlying9 (fun j hj => by
        rw [add_none, Nat.zero_add, h3.cell j, pvArr_at, if_pos (by omega)]
        have h5 := e2 j (by omega)
        rw [hi8] at h5
        rw [List.getElem?_eq_getElem hj] at h5
        rw [Option.some.inj h5, UInt8.toNat_ofNat', Nat.mod_eq_of_lt (pv_lt l j i)])
      rw [e1] at hq
      clear hat e2
      go_wp2
      go_ret2
      exact ⟨rfl, h3.drop⟩
end Go.Proofs.YtnnahljdhdippaaGreatDoor

namespace Go.Proofs.YtnnahljdhdippaaGreatDoor
open Go.RowKit

abbrev encCh (b : Bool) : List Value := [.int .u8 (bch b).toNat]
theorem tyCh : ETy Tryz.prog 121 5 1 1 encCh :=
  ⟨Tryz.underlying121, ⟨.int .u8 0, by kernel_rfl, rfl⟩, fun _ => rfl, fun b u hu => by simp [encCh] at hu; subst hu; rfl, by decide, by decide⟩
abbrev TDe : TypeId := 165
abbrev TEv : TypeId := 71
abbrev ptrD (b : Nat) : Value := .pointer (some ⟨b, 0, none⟩)
def DeAt (p : Nat) (d : De) : HP := hex fun v : Value => blk p (.cells #[v, .bool d.w, .int .i64 d.o] TDe (0, 0)) * LAt 5 1 encCh v d.c
abbrev Ev.cells (v : Ev) : List Value := [.int .i64 v.kind, .string ⟨v.s.toArray⟩]
abbrev Ev.zero : Ev := ⟨0, []⟩
section
variable {w0 w : World} {R : HP} {p : Nat} {d : De}
theorem St.d_open (h : St w0 w (DeAt p d * R)) : ∃ v, St w0 w (blk p (.cells #[v, .bool d.w, .int .i64 d.o] TDe (0, 0)) * (LAt 5 1 encCh v d.c * R)) := by
  obtain ⟨v, h⟩ := h.ex
  exact ⟨v, h.eq (star_assoc _ _ _)⟩
theorem St.d_shut {v : Value} {c : Array Value} {l : List Bool} (h : St w0 w (blk p (.cells c TDe (0, 0)) * (LAt 5 1 encCh v l * R))) (hc : c = #[v, .bool d.w, .int .i64 d.o]) (hl : l = d.c) : St w0 w (DeAt p d * R) := by
  subst hc hl
  exact St.mk_ex v (h.eq (star_assoc _ _ _).symm)
end
theorem d_new (w0 w : World) (R : HP) (h : St w0 w R) :
    Calls Tryz.prog 23 #[] w fun e w' => ∃ p, e = .returned (ptrD p) ∧ St w0 w' (DeAt p .new * R) := by
  have h1 := (h.l_nil 5 1 encCh).alloc (.cells #[.slice none 0 0, .bool false, .int .i64 0] TDe)
  go_enter Tryz.func23, Tryz.ntmps23
  go_wp2
  go_ret
  exact ⟨_, rfl, h1.d_shut rfl rfl⟩
theorem ch_cells {g off n cap : Nat} {l : List Bool} {w0 w : World} {R : HP} (h : St w0 w (LAt 5 1 encCh (.slice (some ⟨g, off, none⟩) n cap) l * R)) (i : Nat) (b : Bool) (hb : l[i]? = some b) : w.cell? ⟨g, off + i, none⟩ = some (.int .u8 (bch b).toNat) := by
  have hi : i < l.length := (List.getElem?_eq_some_iff.1 hb).1
  have := h.row_cell (i * 1 + 0) (by have := Nat.mul_le_mul_right 1 (show i + 1 ≤ l.length from hi); omega)
  rw [encs_at tyCh.len l i b 0 hb (by decide)] at this
  rw [show off + i = off + (i * 1 + 0) by omega]
  exact this

theorem St.d_fresh {w0 w : World} {R E : HP} {p : Nat} {v : Value} {c : List Bool} (h : St w0 w (E * (blk p (.cells #[.slice none 0 0, .bool true, .int .i64 0] TDe (0, 0)) * (LAt 5 1 encCh v c * R)))) : St w0 w (DeAt p ⟨[], true, 0⟩ * R) :=
  (h.drop.f2.drop.l_nil 5 1 encCh).f2.d_shut (d := ⟨[], true, 0⟩) rfl rfl
theorem ch_take (l : List Bool) (k : Nat) : (l.take k).map bch = (l.map bch).take k := List.map_take
set_option maxRecDepth 100000 in
set_option maxHeartbeats 3200000 in
theorem d_flag (p : Nat) (d : De) (ho : d.o = 0) (hc : d.c.length ≤ 3000) (w0 w : World) (R : HP) (h : St w0 w (DeAt p d * R)) :
    Calls Tryz.prog 118 #[ptrD p] w fun e w' => e = .returned (.tuple #[.agg (d.flag.2.getD .zero).cells.toArray, .bool d.flag.2.isSome]) ∧ St w0 w' (DeAt p d.flag.1 * R) := by
  obtain ⟨v, h1⟩ := h.d_open
  obtain ⟨c, wn, o⟩ := d
  simp only [] at *
  subst ho
  have h2 := h1.alloc (.cells #[.int .i64 0, .string ⟨#[]⟩] TEv)
  clear h h1
  obtain ⟨va, vc, rfl, _, _⟩ := h2.f3.l_shape
  obtain ⟨n, hn⟩ : ∃ n, c.length = n := ⟨_, rfl⟩
  rw [hn] at h2 hc
  have HN := Lib.hid hn
  have c2 := h2.f2.cell
  have f2 := h2.f2.free
  have h3 : St w0 _ (blk w.heap.size (.cells #[.int .i64 0, .string ⟨#[]⟩] TEv (0, 0)) * (blk p (.cells #[.slice none 0 0, .bool true, .int .i64 0] TDe (0, 0)) * (LAt 5 1 encCh (.slice va n vc) c * R))) := ((h2.f2.set 0 (.slice none 0 0)).set 1 (.bool true)).f2
  obtain ⟨X, hX⟩ : ∃ X, De.flag ⟨c, wn, 0⟩ = X := ⟨_, rfl⟩
  rw [hX]
  have hA : wn = false ∨ n ≤ 6 → X = (⟨[], true, 0⟩, none) := fun e => by
    rw [← hX, De.flag, if_pos (by rw [← hn] at e; exact e)]
  have hB : ¬ (wn = false ∨ n ≤ 6) → (2128 < n - 6 ∨ (n - 6) % 8 ≠ 0) → X = (⟨[], true, 0⟩, some ⟨2, []⟩) := fun e1 e2 => by
    rw [← hX, De.flag, if_neg (by rw [← hn] at e1; exact e1), if_pos (by rw [← hn] at e2; exact e2)]
  have hC : ¬ (wn = false ∨ n ≤ 6) → ¬ (2128 < n - 6 ∨ (n - 6) % 8 ≠ 0) → X = (⟨[], true, 0⟩, some ⟨0, octs (c.take (n - 6))⟩) := fun e1 e2 => by
    rw [← hX, De.flag, if_neg (by rw [← hn] at e1; exact e1), if_neg (by rw [← hn] at e2; exact e2), ← hn]
  clear hX hn h2
  obtain ⟨q, hq⟩ : ∃ q : Int, (n : Int) - 5 - 1 = q := ⟨_, rfl⟩
  have w5 : IntKind.i64.wrap ((n : Int) - 5) = (n : Int) - 5 := by rw [IntKind.wrap_i64]; omega
  have w6 : IntKind.i64.wrap q = q := by rw [IntKind.wrap_i64]; omega
  by_cases eA : wn = false ∨ n ≤ 6
  · obtain rfl := hA eA
    clear hA hB hC
    cases wn with
    | false =>
      clear eA
      go_enter Tryz.func118, Tryz.ntmps118
      go_upto_region 4 with fail
      generalize ((w.alloc _).setCell _ _).setCell _ _ = wb at *
      generalize w.heap.size = ge at *
      clear c2 f2
      have c3 := h3.cell
      have f3 := h3.free
      have h4 : St w0 _ (blk ge (.cells #[.int .i64 0, .string ⟨#[]⟩] TEv (0, 0)) * (blk p (.cells #[.slice none 0 0, .bool true, .int .i64 0] TDe (0, 0)) * (LAt 5 1 encCh (.slice va n vc) c * R))) := (h3.set 0 (.int .i64 0)).set 1 (.string ⟨#[]⟩)
      go_wp2
      have cr := h4.cell
      refine bodyPost_ret (v := .tuple #[.agg #[.int .i64 0, .string ⟨#[]⟩], .bool false]) (by simp [results, Tryz.results118, go_sem, cr]) rfl ⟨rfl, h4.d_fresh⟩
    | true =>
      have n6 : n ≤ 6 := by
        rcases eA with e | e
        · cases e
        · exact e
      have bq : decide (q ≤ 0) = true := by simp; omega
      clear eA n6
      go_enter Tryz.func118, Tryz.ntmps118
      go_upto_region 4 with fail
      generalize ((w.alloc _).setCell _ _).setCell _ _ = wb at *
      generalize w.heap.size = ge at *
      clear c2 f2
      have c3 := h3.cell
      have f3 := h3.free
      have h4 : St w0 _ (blk ge (.cells #[.int .i64 0, .string ⟨#[]⟩] TEv (0, 0)) * (blk p (.cells #[.slice none 0 0, .bool true, .int .i64 0] TDe (0, 0)) * (LAt 5 1 encCh (.slice va n vc) c * R))) := (h3.set 0 (.int .i64 0)).set 1 (.string ⟨#[]⟩)
      go_wp2
      have cr := h4.cell
      refine bodyPost_ret (v := .tuple #[.agg #[.int .i64 0, .string ⟨#[]⟩], .bool false]) (by simp [results, Tryz.results118, go_sem, cr]) rfl ⟨rfl, h4.d_fresh⟩
  · have ewn : wn = true := by simpa using fun e => eA (Or.inl e)
    subst ewn
    have n6 : 6 < n := by omega
    have bq : decide (q ≤ 0) = false := by simp; omega
    by_cases eB : 2128 < n - 6 ∨ (n - 6) % 8 ≠ 0
    · obtain rfl := hB eA eB
      clear hA hB hC eA
      by_cases e1 : 2128 < n - 6
      · have b1 : decide (q > 2128) = true := by simp; omega
        clear eB
        go_enter Tryz.func118, Tryz.ntmps118
        go_upto_region 4 with fail
        generalize ((w.alloc _).setCell _ _).setCell _ _ = wb at *
        generalize w.heap.size = ge at *
        clear c2 f2
        have c3 := h3.cell
        have f3 := h3.free
        have h4 : St w0 _ (blk ge (.cells #[.int .i64 2, .string ⟨#[]⟩] TEv (0, 0)) * (blk p (.cells #[.slice none 0 0, .bool true, .int .i64 0] TDe (0, 0)) * (LAt 5 1 encCh (.slice va n vc) c * R))) := (h3.set 0 (.int .i64 2)).set 1 (.string ⟨#[]⟩)
        go_wp2
        have cr := h4.cell
        refine bodyPost_ret (v := .tuple #[.agg #[.int .i64 2, .string ⟨#[]⟩], .bool true]) (by simp [results, Tryz.results118, go_sem, cr]) rfl ⟨rfl, h4.d_fresh⟩
      · have b1 : decide (q > 2128) = false := by simp; omega
        have b2 : (q % 8 == 0) = false := by
          simp
          omega
        have b3 : (q % 8 != 0) = true := by simpa using b2
        have q0 : 0 ≤ q := by omega
        clear eB
        go_enter Tryz.func118, Tryz.ntmps118
        go_upto_region 4 with fail
        generalize ((w.alloc _).setCell _ _).setCell _ _ = wb at *
        generalize w.heap.size = ge at *
        clear c2 f2
        have c3 := h3.cell
        have f3 := h3.free
        have h4 : St w0 _ (blk ge (.cells #[.int .i64 2, .string ⟨#[]⟩] TEv (0, 0)) * (blk p (.cells #[.slice none 0 0, .bool true, .int .i64 0] TDe (0, 0)) * (LAt 5 1 encCh (.slice va n vc) c * R))) := (h3.set 0 (.int .i64 2)).set 1 (.string ⟨#[]⟩)
        go_wp2
        have cr := h4.cell
        refine bodyPost_ret (v := .tuple #[.agg #[.int .i64 2, .string ⟨#[]⟩], .bool true]) (by simp [results, Tryz.results118, go_sem, cr]) rfl ⟨rfl, h4.d_fresh⟩
    · obtain rfl := hC eA eB
      clear hA hB hC eA
      obtain ⟨m, hm⟩ : ∃ m, n - 6 = 8 * m := ⟨(n - 6) / 8, by omega⟩
      rw [hm] at eB ⊢
      obtain rfl : q = ((8 * m : Nat) : Int) := by omega
      have b1 : decide (((8 * m : Nat) : Int) > 2128) = false := by simp; omega
      have b2 : ((8 * m : Nat) : Int) % 8 = 0 := by omega
      have hl : (c.take (8 * m)).length = 8 * m := by rw [List.length_take, HN.out]; omega
      have hoc := fun w R h => bt_octets (c.take (8 * m)) m hl (by omega) w0 w R h
      obtain ⟨g, off, rfl⟩ : ∃ g off, va = some ⟨g, off, none⟩ := by
        rcases h3.f3.l_cells tyCh.len with ⟨h0, _⟩ | ⟨g, off, cp, hv, _⟩
        · have := HN.out; rw [h0] at this; simp at this; omega
        · simp only [Value.slice.injEq] at hv; exact ⟨g, off, hv.1⟩
      obtain ⟨S, hS⟩ : ∃ S, bstr (c.take (8 * m)) = S := ⟨_, rfl⟩
      have hcv : ∀ v, St w0 v (blk w.heap.size (.cells #[.int .i64 0, .string ⟨#[]⟩] TEv (0, 0)) * (blk p (.cells #[.slice none 0 0, .bool true, .int .i64 0] TDe (0, 0)) * (LAt 5 1 encCh (.slice (some ⟨g, off, none⟩) n vc) c * R))) → ∀ cp, (convert 121 9 (.slice (some ⟨g, off, none⟩) (8 * m) cp)).run Tryz.prog v = .ok (.string S) v := fun v hv cp => by
        have := run_convert_bytes_back (P := Tryz.prog) v 121 9 5 ⟨g, off, none⟩ cp ((c.take (8 * m)).map bch) Tryz.underlying121 Tryz.underlying5 Tryz.underlying9 (fun j hj => by
          rw [List.length_map, hl] at hj
          rw [add_none, List.getElem_map]
          have hcj : j < c.length := by rw [HN.out]; omega
          have := ch_cells hv.f3 j c[j] (List.getElem?_eq_getElem hcj)
          rw [this]
          simp)
        rw [List.length_map, hl] at this
        rw [this, ← hS]
        rfl
      rw [hS] at hoc
      have hkc : ((8 * m : Nat) : Int) ≤ (vc : Int) := by have := HN.out; omega
      have hk0 : 0 ≤ ((8 * m : Nat) : Int) := by omega
      generalize octs (c.take (8 * m)) = O at *
      generalize 8 * m = k at *
      have HCV := Lib.hid hcv
      clear hcv hS hl eB hm
      go_enter Tryz.func118, Tryz.ntmps118
      go_upto_region 4 with fail
      generalize ((w.alloc _).setCell _ _).setCell _ _ = wb at *
      have hcx := HCV.out wb h3
      generalize w.heap.size = ge at *
      clear c2 f2 HCV
      go_wp2_with fail
      refine (hoc wb _ h3).mono ?_
      rintro e w5 ⟨rfl, h5⟩
      clear hcx h3
      have c3 := h5.cell
      have f3 := h5.free
      have h4 : St w0 _ (blk ge (.cells #[.int .i64 0, .string ⟨O.toArray⟩] TEv (0, 0)) * (blk p (.cells #[.slice none 0 0, .bool true, .int .i64 0] TDe (0, 0)) * (LAt 5 1 encCh (.slice (some ⟨g, off, none⟩) n vc) c * R))) := (h5.set 0 (.int .i64 0)).set 1 (.string ⟨O.toArray⟩)
      go_wp2
      have cr := h4.cell
      refine bodyPost_ret (v := .tuple #[.agg #[.int .i64 0, .string ⟨O.toArray⟩], .bool true]) (by simp [results, Tryz.results118, go_sem, cr]) rfl ⟨rfl, h4.d_fresh⟩
end Go.Proofs.YtnnahljdhdippaaGreatDoor

namespace Go.Proofs.YtnnahljdhdippaaGreatDoor
open Go.RowKit

theorem St.d_back {w0 w : World} {R E : HP} {p : Nat} {v : Value} {c : List Bool} {wn : Bool} {o : Nat} (h : St w0 w (E * (blk p (.cells #[v, .bool wn, .int .i64 o] TDe (0, 0)) * (LAt 5 1 encCh v c * R)))) : St w0 w (DeAt p ⟨c, wn, o⟩ * R) := h.drop.d_shut rfl rfl
theorem St.d_none {w0 w : World} {R E : HP} {p : Nat} {v : Value} {c : List Bool} {wn : Bool} {o : Nat} (h : St w0 w (E * (blk p (.cells #[.slice none 0 0, .bool wn, .int .i64 o] TDe (0, 0)) * (LAt 5 1 encCh v c * R)))) : St w0 w (DeAt p ⟨[], wn, o⟩ * R) :=
  (h.drop.f2.drop.l_nil 5 1 encCh).f2.d_shut (d := ⟨[], wn, o⟩) rfl rfl
/-- an event's cells, written over -/
theorem St.ev_set {w0 w : World} {R : HP} {g : Nat} {c : Array Value} (k : Int) (s : ByteArray) (hc : c.size = 2) (h : St w0 w (blk g (.cells c TEv (0, 0)) * R)) : St w0 ((w.setCell ⟨g, 0, none⟩ (.int .i64 k)).setCell ⟨g, 1, none⟩ (.string s)) (blk g (.cells #[.int .i64 k, .string s] TEv (0, 0)) * R) := by
  have h1 := (h.set 0 (.int .i64 k)).set 1 (.string s)
  have e : ((c.setIfInBounds 0 (.int .i64 k)).setIfInBounds 1 (.string s)) = #[.int .i64 k, .string s] := by
    apply Array.ext_getElem?
    intro i
    rw [Array.getElem?_setIfInBounds, Array.getElem?_setIfInBounds]
    match i with
    | 0 => simp [hc]
    | 1 => simp [hc]
    | i + 2 => simp [hc]
  rw [e] at h1
  exact h1
set_option maxRecDepth 100000 in
set_option maxHeartbeats 3200000 in
theorem d_bit (p : Nat) (d : De) (b : Bool) (ho : d.o ≤ 1000000000000000000) (hc : d.c.length ≤ 2135) (w0 w : World) (R : HP) (h : St w0 w (DeAt p d * R)) :
    Calls Tryz.prog 54 #[ptrD p, .int .u8 (bch b).toNat] w fun e w' => e = .returned (.tuple #[.agg ((d.bit b).2.getD .zero).cells.toArray, .bool (d.bit b).2.isSome]) ∧ St w0 w' (DeAt p (d.bit b).1 * R) := by
  have hfl := fun v R h => d_flag p ⟨d.c, d.w, 0⟩ rfl (by show d.c.length ≤ 3000; omega) w0 v R h
  obtain ⟨v, h1⟩ := h.d_open
  obtain ⟨c, wn, o⟩ := d
  simp only [] at *
  have h2 := h1.alloc (.cells #[.int .i64 0, .string ⟨#[]⟩] TEv)
  clear h h1
  obtain ⟨va, vc, rfl, _, _⟩ := h2.f3.l_shape
  obtain ⟨n, hn⟩ : ∃ n, c.length = n := ⟨_, rfl⟩
  rw [hn] at h2 hc
  have HN := Lib.hid hn
  have c2 := h2.f2.cell
  have f2 := h2.f2.free
  cases b with
  | true =>
    have hbt : ((bch true).toNat : Int) = 49 := rfl
    rw [hbt]
    have w1 : IntKind.i64.wrap ((o : Int) + 1) = (o : Int) + 1 := by rw [IntKind.wrap_i64]; omega
    have h3 : St w0 _ (blk w.heap.size (.cells #[.int .i64 0, .string ⟨#[]⟩] TEv (0, 0)) * (blk p (.cells #[.slice va n vc, .bool wn, .int .i64 ((o : Int) + 1)] TDe (0, 0)) * (LAt 5 1 encCh (.slice va n vc) c * R))) := (h2.f2.set 2 (.int .i64 ((o : Int) + 1))).f2
    by_cases e7 : o = 6 ∧ wn = true
    · obtain ⟨rfl, rfl⟩ := e7
      have hX : De.bit ⟨c, true, 6⟩ true = (⟨[], false, 7⟩, some ⟨1, []⟩) := by
        unfold De.bit
        rw [if_pos rfl, if_pos ⟨rfl, rfl⟩]
      rw [hX]
      clear h3
      have h3 : St w0 _ (blk w.heap.size (.cells #[.int .i64 0, .string ⟨#[]⟩] TEv (0, 0)) * (blk p (.cells #[.slice va n vc, .bool true, .int .i64 7] TDe (0, 0)) * (LAt 5 1 encCh (.slice va n vc) c * R))) := (h2.f2.set 2 (.int .i64 7)).f2
      clear hX hn h2 hfl w1
      go_enter Tryz.func54, Tryz.ntmps54
      go_upto_region 3 with fail
      generalize (w.alloc _).setCell _ _ = wb at *
      generalize w.heap.size = ge at *
      clear c2 f2
      have c3 := h3.f2.cell
      have f3 := h3.f2.free
      have h4 : St w0 _ (blk ge (.cells #[.int .i64 0, .string ⟨#[]⟩] TEv (0, 0)) * (blk p (.cells #[.slice none 0 0, .bool false, .int .i64 7] TDe (0, 0)) * (LAt 5 1 encCh (.slice va n vc) c * R))) := ((h3.f2.set 0 (.slice none 0 0)).set 1 (.bool false)).f2
      go_upto_region 5 with fail
      generalize (wb.setCell _ _).setCell _ _ = wc at *
      clear c3 f3 h3
      have c8 := h4.cell
      have f8 := h4.free
      have h8 := h4.ev_set 1 ⟨#[]⟩ rfl
      go_wp2
      have cr := h8.cell
      refine bodyPost_ret (v := .tuple #[.agg #[.int .i64 1, .string ⟨#[]⟩], .bool true]) (by simp [results, Tryz.results54, go_sem, cr]) rfl ⟨rfl, ?_⟩
      exact (show St w0 _ (blk ge _ * (blk p (.cells #[.slice none 0 0, .bool false, .int .i64 ((7 : Nat) : Int)] TDe (0, 0)) * (LAt 5 1 encCh (.slice va n vc) c * R))) from h8).d_none
    · have hX : De.bit ⟨c, wn, o⟩ true = (De.put ⟨c, wn, o + 1⟩ true, none) := by
        unfold De.bit
        rw [if_pos rfl, if_neg (fun h => e7 ⟨by have := h.1; show o = 6; simp only [] at this; omega, h.2⟩)]
      rw [hX]
      clear hX hn h2 hfl
      obtain ⟨q, hq⟩ : ∃ q, o + 1 = q := ⟨_, rfl⟩
      have hqi : (o : Int) + 1 = (q : Int) := by omega
      rw [hqi] at h3 w1
      rw [hq]
      have b7 : ((q : Int) == 7) = false ∨ wn = false := by
        by_cases h6 : o = 6
        · right
          simpa using fun e => e7 ⟨h6, e⟩
        · left
          simp
          omega
      have B7 := Lib.hid b7
      clear b7 e7
      by_cases eP : wn = true ∧ q ≤ 5 ∧ n ≤ 2134
      · obtain ⟨rfl, q5, n5⟩ := eP
        have hX : De.put ⟨c, true, q⟩ true = ⟨c ++ [true], true, q⟩ := by
          unfold De.put
          rw [if_pos ⟨rfl, q5, by show c.length ≤ 2134; rw [HN.out]; exact n5⟩]
        rw [hX]
        have b7 : ((q : Int) == 7) = false := by simp; omega
        have b5 : decide ((q : Int) ≤ 5) = true := by simp; omega
        have bn : decide ((n : Int) ≤ 2134) = true := by simp; omega
        clear hX B7 hq
        go_enter Tryz.func54, Tryz.ntmps54
        go_upto_region 3 with fail
        generalize (w.alloc _).setCell _ _ = wb at *
        generalize w.heap.size = ge at *
        clear c2 f2
        have c3 := h3.f2.cell
        have f3 := h3.f2.free
        go_upto_region 14 with fail
        have hA := ((h3.eq (show _ = LAt 5 1 encCh (.slice va n vc) c * (blk ge (.cells #[.int .i64 0, .string ⟨#[]⟩] TEv (0, 0)) * (blk p _ * R)) by ac_rfl)).alloc (.cells #[.int .u8 (bch true).toNat] 5)).drop
        go_upto_region 15 with (at_builtin; refine wp_append_elem rfl (.tmp 86) (.tmp 88) rfl tyCh hA true rfl _ rfl (new_cells _ [.int .u8 (bch true).toNat] _ _ (by simp)) (by have := HN.out; omega) ?hk1; (case' hk1 => (intro g off cap w8 h8; have c8 := h8.f3.cell; have f8 := h8.f3.free; have c9 := h8.f2.cell; have f9 := h8.f2.free)))
        have h9 : St w0 _ (blk ge (.cells #[.int .i64 0, .string ⟨#[]⟩] TEv (0, 0)) * (blk p (.cells #[.slice (some ⟨g, off, none⟩) (c.length + 1) cap, .bool true, .int .i64 q] TDe (0, 0)) * (LAt 5 1 encCh (.slice (some ⟨g, off, none⟩) (c.length + 1) cap) (c ++ [true]) * R))) := ((h8.f3.set 0 (.slice (some ⟨g, off, none⟩) (c.length + 1) cap)).eq (show _ = blk ge _ * (blk p _ * (LAt 5 1 encCh (.slice (some ⟨g, off, none⟩) (c.length + 1) cap) (c ++ [true]) * R)) by ac_rfl))
        generalize w8.setCell _ _ = w9 at *
        clear c8 f8 c9 f9 h8 c3 f3
        have c8 := h9.cell
        have f8 := h9.free
        have h10 := h9.ev_set 0 ⟨#[]⟩ rfl
        go_wp2
        have cr := h10.cell
        refine bodyPost_ret (v := .tuple #[.agg #[.int .i64 0, .string ⟨#[]⟩], .bool false]) (by simp [results, Tryz.results54, go_sem, cr]) rfl ⟨rfl, h10.d_back⟩
      · have hX : De.put ⟨c, wn, q⟩ true = ⟨c, wn, q⟩ := by
          unfold De.put
          rw [if_neg (fun h => eP ⟨h.1, h.2.1, by have := h.2.2; simp only [] at this; rw [HN.out] at this; exact this⟩)]
        rw [hX]
        clear hX hq
        cases wn with
        | false =>
          clear eP B7
          by_cases q7 : (q : Int) = 7
          · have b7 : ((q : Int) == 7) = true := by simpa using q7
            clear q7
            go_enter Tryz.func54, Tryz.ntmps54
            go_upto_region 3 with fail
            generalize (w.alloc _).setCell _ _ = wb at *
            generalize w.heap.size = ge at *
            clear c2 f2
            have c3 := h3.f2.cell
            have f3 := h3.f2.free
            have c8 := (h3).cell
            have f8 := (h3).free
            have h8 := (h3).ev_set 0 ⟨#[]⟩ rfl
            go_wp2
            have cr := h8.cell
            refine bodyPost_ret (v := .tuple #[.agg #[.int .i64 0, .string ⟨#[]⟩], .bool false]) (by simp [results, Tryz.results54, go_sem, cr]) rfl ⟨rfl, h8.d_back⟩
          · have b7 : ((q : Int) == 7) = false := by simpa using q7
            clear q7
            go_enter Tryz.func54, Tryz.ntmps54
            go_upto_region 3 with fail
            generalize (w.alloc _).setCell _ _ = wb at *
            generalize w.heap.size = ge at *
            clear c2 f2
            have c3 := h3.f2.cell
            have f3 := h3.f2.free
            have c8 := (h3).cell
            have f8 := (h3).free
            have h8 := (h3).ev_set 0 ⟨#[]⟩ rfl
            go_wp2
            have cr := h8.cell
            refine bodyPost_ret (v := .tuple #[.agg #[.int .i64 0, .string ⟨#[]⟩], .bool false]) (by simp [results, Tryz.results54, go_sem, cr]) rfl ⟨rfl, h8.d_back⟩
        | true =>
          have b7 : ((q : Int) == 7) = false := by
            rcases B7.out with e | e
            · exact e
            · cases e
          clear B7
          by_cases q5 : q ≤ 5
          · have b5 : decide ((q : Int) ≤ 5) = true := by simp; omega
            have hn9 : ¬ n ≤ 2134 := fun h => eP ⟨rfl, q5, h⟩
            have bn : decide ((n : Int) ≤ 2134) = false := by simp; omega
            clear eP
            go_enter Tryz.func54, Tryz.ntmps54
            go_upto_region 3 with fail
            generalize (w.alloc _).setCell _ _ = wb at *
            generalize w.heap.size = ge at *
            clear c2 f2
            have c3 := h3.f2.cell
            have f3 := h3.f2.free
            have c8 := (h3).cell
            have f8 := (h3).free
            have h8 := (h3).ev_set 0 ⟨#[]⟩ rfl
            go_wp2
            have cr := h8.cell
            refine bodyPost_ret (v := .tuple #[.agg #[.int .i64 0, .string ⟨#[]⟩], .bool false]) (by simp [results, Tryz.results54, go_sem, cr]) rfl ⟨rfl, h8.d_back⟩
          · have b5 : decide ((q : Int) ≤ 5) = false := by simp; omega
            clear eP
            go_enter Tryz.func54, Tryz.ntmps54
            go_upto_region 3 with fail
            generalize (w.alloc _).setCell _ _ = wb at *
            generalize w.heap.size = ge at *
            clear c2 f2
            have c3 := h3.f2.cell
            have f3 := h3.f2.free
            have c8 := (h3).cell
            have f8 := (h3).free
            have h8 := (h3).ev_set 0 ⟨#[]⟩ rfl
            go_wp2
            have cr := h8.cell
            refine bodyPost_ret (v := .tuple #[.agg #[.int .i64 0, .string ⟨#[]⟩], .bool false]) (by simp [results, Tryz.results54, go_sem, cr]) rfl ⟨rfl, h8.d_back⟩
  | false =>
    have hbt : ((bch false).toNat : Int) = 48 := rfl
    rw [hbt]
    have h3 : St w0 _ (blk w.heap.size (.cells #[.int .i64 0, .string ⟨#[]⟩] TEv (0, 0)) * (blk p (.cells #[.slice va n vc, .bool wn, .int .i64 ((0 : Nat) : Int)] TDe (0, 0)) * (LAt 5 1 encCh (.slice va n vc) c * R))) := (h2.f2.set 2 (.int .i64 ((0 : Nat) : Int))).f2
    by_cases o5 : 5 ≤ o
    · by_cases o6 : o = 6
      · subst o6
        have hX : De.bit ⟨c, wn, 6⟩ false = De.flag ⟨c, wn, 0⟩ := by
          unfold De.bit
          rw [if_neg (by decide), if_pos (show 5 ≤ 6 by decide), if_pos rfl]
          rfl
        rw [hX]
        generalize De.flag ⟨c, wn, 0⟩ = X at *
        obtain ⟨X1, X2⟩ := X
        simp only [] at hfl ⊢
        obtain ⟨V, hV⟩ : ∃ V, X2.getD .zero = V := ⟨_, rfl⟩
        rw [hV] at hfl ⊢
        generalize X2.isSome = B at *
        obtain ⟨vk, vs⟩ := V
        clear hX hn hV h2
        go_enter Tryz.func54, Tryz.ntmps54
        go_upto_region 9 with fail
        generalize (w.alloc _).setCell _ _ = wb at *
        generalize w.heap.size = ge at *
        clear c2 f2
        have c3 := h3.f2.cell
        have f3 := h3.f2.free
        have h4 := (show St w0 wb (blk ge (.cells #[.int .i64 0, .string ⟨#[]⟩] TEv (0, 0)) * (blk p (.cells #[.slice va n vc, .bool wn, .int .i64 ((0 : Nat) : Int)] TDe (0, 0)) * (LAt 5 1 encCh (.slice va n vc) c * R))) from h3).f2
        have h5 : St w0 wb (DeAt p ⟨c, wn, 0⟩ * (blk ge (.cells #[.int .i64 0, .string ⟨#[]⟩] TEv (0, 0)) * R)) := St.d_shut (d := ⟨c, wn, 0⟩) (h4.eq (show _ = blk p _ * (LAt 5 1 encCh (.slice va n vc) c * (blk ge _ * R)) by ac_rfl)) rfl rfl
        have hc := hfl wb _ h5
        clear h4 h5 hfl
        go_wp2_with fail
        refine hc.mono ?_
        rintro e w5 ⟨rfl, h6⟩
        clear hc h3 c3 f3
        have h7 := h6.f2
        have c8 := h7.cell
        have f8 := h7.free
        have h8 := h7.ev_set vk ⟨vs.toArray⟩ rfl
        go_wp2
        have cr := h8.cell
        refine bodyPost_ret (v := .tuple #[.agg #[.int .i64 vk, .string ⟨vs.toArray⟩], .bool B]) (by simp [results, Tryz.results54, go_sem, cr]) rfl ⟨rfl, h8.drop⟩
      · have hX : De.bit ⟨c, wn, o⟩ false = (⟨c, wn, 0⟩, none) := by
          unfold De.bit
          rw [if_neg (by decide), if_pos o5, if_neg o6]
        rw [hX]
        have b6 : ((o : Int) == 6) = false := by simp; omega
        clear hX hn h2 hfl o6
        by_cases o9 : o = 5
        · subst o9
          go_enter Tryz.func54, Tryz.ntmps54
          go_upto_region 9 with fail
          generalize (w.alloc _).setCell _ _ = wb at *
          generalize w.heap.size = ge at *
          clear c2 f2
          have c3 := h3.f2.cell
          have f3 := h3.f2.free
          have c8 := (h3).cell
          have f8 := (h3).free
          have h8 := (h3).ev_set 0 ⟨#[]⟩ rfl
          go_wp2
          have cr := h8.cell
          refine bodyPost_ret (v := .tuple #[.agg #[.int .i64 0, .string ⟨#[]⟩], .bool false]) (by simp [results, Tryz.results54, go_sem, cr]) rfl ⟨rfl, h8.d_back⟩
        · have b5 : decide ((o : Int) > 5) = true := by simp; omega
          clear o9
          go_enter Tryz.func54, Tryz.ntmps54
          go_upto_region 9 with fail
          generalize (w.alloc _).setCell _ _ = wb at *
          generalize w.heap.size = ge at *
          clear c2 f2
          have c3 := h3.f2.cell
          have f3 := h3.f2.free
          have c8 := (h3).cell
          have f8 := (h3).free
          have h8 := (h3).ev_set 0 ⟨#[]⟩ rfl
          go_wp2
          have cr := h8.cell
          refine bodyPost_ret (v := .tuple #[.agg #[.int .i64 0, .string ⟨#[]⟩], .bool false]) (by simp [results, Tryz.results54, go_sem, cr]) rfl ⟨rfl, h8.d_back⟩
    · have hX : De.bit ⟨c, wn, o⟩ false = (De.put ⟨c, wn, 0⟩ false, none) := by
        unfold De.bit
        rw [if_neg (by decide), if_neg o5]
      rw [hX]
      have b5 : decide ((o : Int) > 5) = false := by simp; omega
      have b6 : ((o : Int) == 5) = false := by simp; omega
      clear hX hn h2 hfl o5
      by_cases eP : wn = true ∧ n ≤ 2134
      · obtain ⟨rfl, n5⟩ := eP
        have hX : De.put ⟨c, true, 0⟩ false = ⟨c ++ [false], true, 0⟩ := by
          unfold De.put
          rw [if_pos ⟨rfl, Nat.zero_le _, by show c.length ≤ 2134; rw [HN.out]; exact n5⟩]
        rw [hX]
        have bn : decide ((n : Int) ≤ 2134) = true := by simp; omega
        clear hX
        go_enter Tryz.func54, Tryz.ntmps54
        go_upto_region 13 with fail
        generalize (w.alloc _).setCell _ _ = wb at *
        generalize w.heap.size = ge at *
        clear c2 f2
        have c3 := h3.f2.cell
        have f3 := h3.f2.free
        go_upto_region 14 with fail
        have hA := ((h3.eq (show _ = LAt 5 1 encCh (.slice va n vc) c * (blk ge (.cells #[.int .i64 0, .string ⟨#[]⟩] TEv (0, 0)) * (blk p _ * R)) by ac_rfl)).alloc (.cells #[.int .u8 (bch false).toNat] 5)).drop
        go_upto_region 15 with (at_builtin; refine wp_append_elem rfl (.tmp 86) (.tmp 88) rfl tyCh hA false rfl _ rfl (new_cells _ [.int .u8 (bch false).toNat] _ _ (by simp)) (by have := HN.out; omega) ?hk2; (case' hk2 => (intro g off cap w8 h8; have c8 := h8.f3.cell; have f8 := h8.f3.free; have c9 := h8.f2.cell; have f9 := h8.f2.free)))
        have h9 : St w0 _ (blk ge (.cells #[.int .i64 0, .string ⟨#[]⟩] TEv (0, 0)) * (blk p (.cells #[.slice (some ⟨g, off, none⟩) (c.length + 1) cap, .bool true, .int .i64 ((0 : Nat) : Int)] TDe (0, 0)) * (LAt 5 1 encCh (.slice (some ⟨g, off, none⟩) (c.length + 1) cap) (c ++ [false]) * R))) := ((h8.f3.set 0 (.slice (some ⟨g, off, none⟩) (c.length + 1) cap)).eq (show _ = blk ge _ * (blk p _ * (LAt 5 1 encCh (.slice (some ⟨g, off, none⟩) (c.length + 1) cap) (c ++ [false]) * R)) by ac_rfl))
        generalize w8.setCell _ _ = w9 at *
        clear c8 f8 c9 f9 h8 c3 f3
        have c8 := h9.cell
        have f8 := h9.free
        have h10 := h9.ev_set 0 ⟨#[]⟩ rfl
        go_wp2
        have cr := h10.cell
        refine bodyPost_ret (v := .tuple #[.agg #[.int .i64 0, .string ⟨#[]⟩], .bool false]) (by simp [results, Tryz.results54, go_sem, cr]) rfl ⟨rfl, h10.d_back⟩
      · have hX : De.put ⟨c, wn, 0⟩ false = ⟨c, wn, 0⟩ := by
          unfold De.put
          rw [if_neg (fun h => eP ⟨h.1, by have := h.2.2; simp only [] at this; rw [HN.out] at this; exact this⟩)]
        rw [hX]
        clear hX
        cases wn with
        | false =>
          clear eP
          go_enter Tryz.func54, Tryz.ntmps54
          go_upto_region 13 with fail
          generalize (w.alloc _).setCell _ _ = wb at *
          generalize w.heap.size = ge at *
          clear c2 f2
          have c3 := h3.f2.cell
          have f3 := h3.f2.free
          have c8 := (h3).cell
          have f8 := (h3).free
          have h8 := (h3).ev_set 0 ⟨#[]⟩ rfl
          go_wp2
          have cr := h8.cell
          refine bodyPost_ret (v := .tuple #[.agg #[.int .i64 0, .string ⟨#[]⟩], .bool false]) (by simp [results, Tryz.results54, go_sem, cr]) rfl ⟨rfl, h8.d_back⟩
        | true =>
          have hn9 : ¬ n ≤ 2134 := fun h => eP ⟨rfl, h⟩
          have bn : decide ((n : Int) ≤ 2134) = false := by simp; omega
          clear eP hn9
          go_enter Tryz.func54, Tryz.ntmps54
          go_upto_region 13 with fail
          generalize (w.alloc _).setCell _ _ = wb at *
          generalize w.heap.size = ge at *
          clear c2 f2
          have c3 := h3.f2.cell
          have f3 := h3.f2.free
          have c8 := (h3).cell
          have f8 := (h3).free
          have h8 := (h3).ev_set 0 ⟨#[]⟩ rfl
          go_wp2
          have cr := h8.cell
          refine bodyPost_ret (v := .tuple #[.agg #[.int .i64 0, .string ⟨#[]⟩], .bool false]) (by simp [results, Tryz.results54, go_sem, cr]) rfl ⟨rfl, h8.d_back⟩
end Go.Proofs.YtnnahljdhdippaaGreatDoor
