/- The decoder of frames: Feed. -/
import Derived.Test.YtnnahljdhdippaaGreatDoorB19
namespace Go.Proofs.YtnnahljdhdippaaGreatDoor
open Go.RowKit

/-- the bits of a string: what is no bit is left out -/
def bitsIn : List UInt8 → List Bool
  | [] => []
  | x :: l => if x = 49 then true :: bitsIn l else if x = 48 then false :: bitsIn l else bitsIn l
theorem bitsIn_bstr (l : List Bool) : bitsIn (bstr l).data.toList = l := by
  rw [bstr_list]
  induction l with
  | nil => rfl
  | cons b l ih =>
    cases b with
    | true =>
      show bitsIn (49 :: l.map bch) = _
      unfold bitsIn
      rw [if_pos rfl, ih]
    | false =>
      show bitsIn (48 :: l.map bch) = _
      unfold bitsIn
      rw [if_neg (by decide), if_pos rfl, ih]
/-- what is always so of a decoder -/
def De.Fits (d : De) : Prop := d.c.length ≤ 2135
theorem fits_bit {d : De} (h : d.Fits) (b : Bool) : (d.bit b).1.Fits := by
  have hp : ∀ x : De, x.c.length ≤ 2135 → (x.put b).c.length ≤ 2135 := fun x hx => by
    unfold De.put
    split
    · rename_i h2
      show (x.c ++ [b]).length ≤ 2135
      rw [List.length_append, List.length_singleton]
      omega
    · exact hx
  have hf : (d.flag).1.c.length ≤ 2135 := by
    unfold De.flag
    repeat' split
    all_goals exact Nat.zero_le _
  unfold De.Fits De.bit
  cases b with
  | true =>
    rw [if_pos rfl]
    split
    · exact Nat.zero_le _
    · exact hp _ h
  | false =>
    rw [if_neg (by decide)]
    split
    · split
      · exact hf
      · exact h
    · exact hp _ h
theorem ones_bit (d : De) (b : Bool) : (d.bit b).1.o ≤ d.o + 1 ∨ (d.bit b).1.o ≤ 7 := by
  have hp : ∀ x : De, (x.put b).o = x.o := fun x => by
    unfold De.put
    split <;> rfl
  unfold De.bit
  cases b with
  | true =>
    rw [if_pos rfl]
    split
    · exact Or.inr (Nat.le_refl _)
    · exact Or.inl (Nat.le_of_eq (hp _))
  | false =>
    rw [if_neg (by decide)]
    split
    · split
      · right
        unfold De.flag
        repeat' split
        all_goals exact Nat.zero_le _
      · exact Or.inr (Nat.zero_le _)
    · right
      show (De.put _ false).o ≤ 7
      rw [hp]
      exact Nat.zero_le _
theorem tyEv : ETy Tryz.prog 65 TEv 2 24 Ev.cells :=
  ⟨Tryz.underlying65, ⟨.agg #[.int .i64 0, .string ⟨#[]⟩], by kernel_rfl, rfl⟩, fun _ => rfl, fun b u hu => by simp [Ev.cells] at hu; rcases hu with rfl | rfl <;> rfl, by decide, by decide⟩
theorem is_bit : ∀ x : Fin 256, (bits .or .u8 ((x : Nat) : Int) 1 != 49) = !(decide ((x : Nat) = 49) || decide ((x : Nat) = 48)) := by decide +kernel
theorem feed_snoc (d : De) (l : List Bool) (b : Bool) : d.feed (l ++ [b]) = (((d.feed l).1.bit b).1, (d.feed l).2 ++ ((d.feed l).1.bit b).2.toList) := by
  rw [feed_app]
  simp only [De.feed, List.append_nil]
theorem bitsIn_cons (x : UInt8) (l : List UInt8) : bitsIn (x :: l) = if x = 49 then true :: bitsIn l else if x = 48 then false :: bitsIn l else bitsIn l := rfl
theorem bitsIn_app (a b : List UInt8) : bitsIn (a ++ b) = bitsIn a ++ bitsIn b := by
  induction a with
  | nil => rfl
  | cons x a ih =>
    show bitsIn (x :: (a ++ b)) = bitsIn (x :: a) ++ bitsIn b
    rw [bitsIn_cons x (a ++ b), bitsIn_cons x a, ih]
    repeat' split
    all_goals rfl
theorem feed_len (l : List Bool) : ∀ d : De, (d.feed l).2.length ≤ l.length := by
  induction l with
  | nil => intro d; exact Nat.le_refl _
  | cons b l ih =>
    intro d
    show ((d.bit b).2.toList ++ _).length ≤ _
    rw [List.length_append]
    have := ih (d.bit b).1
    have h2 : (d.bit b).2.toList.length ≤ 1 := by cases (d.bit b).2 <;> simp
    simp only [List.length_cons]
    omega
theorem bitsIn_len (l : List UInt8) : (bitsIn l).length ≤ l.length := by
  induction l with
  | nil => exact Nat.le_refl _
  | cons x l ih =>
    unfold bitsIn
    repeat' split
    all_goals (simp only [List.length_cons]; omega)
set_option maxRecDepth 100000 in
set_option maxHeartbeats 3200000 in
theorem d_feed (p : Nat) (d : De) (s : ByteArray) (hd : d.Fits) (ho : d.o ≤ 100000000000000000) (hs : s.size ≤ 10000000) (w0 w : World) (R : HP) (h : St w0 w (DeAt p d * R)) :
    Calls Tryz.prog 24 #[ptrD p, .string s] w fun e w' => ∃ v, e = .returned v ∧ St w0 w' (LAt TEv 2 Ev.cells v (d.feed (bitsIn s.data.toList)).2 * (DeAt p (d.feed (bitsIn s.data.toList)).1 * R)) := by
  obtain ⟨n, hn⟩ : ∃ n, s.size = n := ⟨_, rfl⟩
  rw [hn] at hs
  have HN := Lib.hid hn
  obtain ⟨Z, hZ⟩ : ∃ Z, d.feed (bitsIn s.data.toList) = Z := ⟨_, rfl⟩
  rw [hZ]
  have HZ := Lib.hid hZ
  clear hZ
  have h2 := h.l_nil TEv 2 Ev.cells
  go_enter Tryz.func24, Tryz.ntmps24
  go_wp2
  go_loopw [5, 13] (fun s5 s13 wr => ∃ (k : Nat) (X : De × List Ev), k ≤ n ∧ s13 = .int .i64 k ∧ Hid (d.feed (bitsIn (s.data.toList.take k)) = X ∧ X.1.Fits ∧ X.1.o ≤ 100000000000000010 + k ∧ X.2.length ≤ k) ∧ St w0 wr (LAt TEv 2 Ev.cells s5 X.2 * (DeAt p X.1 * R))) (fun _ s13 _ => n - (intOf s13).toNat)
  case atStart => exact ⟨0, (d, []), by omega, rfl, Lib.hid ⟨rfl, hd, by show d.o ≤ _; omega, Nat.le_refl _⟩, h2⟩
  case round =>
    clear h2 h
    obtain ⟨k, ⟨X1, X2⟩, hk, rfl, HX, h3⟩ := hrel
    by_cases hlt : k < n
    · have hkn : (k : Int) < (n : Int) := by omega
      have hi : k < s.data.toList.length := by have h1 : s.data.size = n := HN.out; rw [Array.length_toList, h1]; exact hlt
      obtain ⟨o, hoo⟩ : ∃ o, s.data.toList[k] = o := ⟨_, rfl⟩
      have htk : s.data.toList.take (k + 1) = s.data.toList.take k ++ [o] := by rw [List.take_add_one, List.getElem?_eq_getElem hi, hoo]; rfl
      have hx : ∀ w, (Instr.index 9 (.string s) (.int .i64 (k : Int))).run Tryz.prog w = .ok (.int .u8 o.toNat) w := fun w => by
        have h1 := HN.out
        rw [run_index_string (P := Tryz.prog) w 9 s .i64 k Tryz.underlying9, dif_pos ⟨by omega, by omega⟩]
        have : s[(k : Int).toNat]'(by omega) = o := hoo
        rw [this]
      have hib := is_bit ⟨o.toNat, o.toNat_lt⟩
      simp only [] at hib
      obtain ⟨x1, x2, x3, x4⟩ := HX.out
      simp only [] at x2 x3 x4
      have hsn := feed_snoc d (bitsIn (s.data.toList.take k))
      rw [x1] at hsn
      simp only [] at hsn
      clear hoo hi hn
      obtain ⟨la, ca, rfl, _, _⟩ := h3.l_shape
      by_cases hbit : o.toNat = 49 ∨ o.toNat = 48
      · obtain ⟨b, hb⟩ : ∃ b : Bool, bch b = o := by
          rcases hbit with e | e
          · exact ⟨true, by apply UInt8.toNat_inj.1; rw [e]; rfl⟩
          · exact ⟨false, by apply UInt8.toNat_inj.1; rw [e]; rfl⟩
        have hbi : bitsIn (s.data.toList.take (k + 1)) = bitsIn (s.data.toList.take k) ++ [b] := by
          rw [htk, bitsIn_app, ← hb]
          cases b <;> rfl
        have hsn2 := hsn b
        rw [← hbi] at hsn2
        have hc := d_bit p X1 b (by omega) x2 w0 wr _ h3.f2
        rw [show ((bch b).toNat : Int) = (o.toNat : Int) from by rw [hb]] at hc
        have hfb := fits_bit x2 b
        have hob := ones_bit X1 b
        have hib2 : (bits .or .u8 (o.toNat : Int) 1 != 49) = false := by
          rw [hib]
          rcases hbit with e | e <;> simp [e]
        generalize X1.bit b = Y at *
        obtain ⟨Y1, Y2⟩ := Y
        simp only [] at hc hsn2 hfb hob
        clear hsn hib hbit hbi htk hb HX x1 x2 h3
        cases Y2 with
        | none =>
          have HY := Lib.hid (show d.feed (bitsIn (s.data.toList.take (k + 1))) = (Y1, X2) ∧ Y1.Fits ∧ Y1.o ≤ 100000000000000010 + (k + 1) ∧ X2.length ≤ k + 1 from ⟨by rw [hsn2]; simp, hfb, by omega, by omega⟩)
          clear hsn2 hfb hob
          go_wp2_with fail
          refine hc.mono ?_
          rintro e w1 ⟨rfl, h4⟩
          clear hc
          have h5 := h4.alloc (.cells Ev.zero.cells.toArray TEv)
          go_upto_region 9 with fail
          generalize w1.alloc _ = w2 at *
          go_wp2
          go_roundw
          case rel => exact ⟨k + 1, (Y1, X2), by omega, by go_num, HY, h5.drop.f2⟩
          case measure => simp [intOf]; omega
        | some v =>
          have HY := Lib.hid (show d.feed (bitsIn (s.data.toList.take (k + 1))) = (Y1, X2 ++ [v]) ∧ Y1.Fits ∧ Y1.o ≤ 100000000000000010 + (k + 1) ∧ (X2 ++ [v]).length ≤ k + 1 from ⟨by rw [hsn2]; simp, hfb, by omega, by simp; omega⟩)
          obtain ⟨vk, vs⟩ := v
          have hX4 : X2.length ≤ 10000000 := by omega
          clear hsn2 hfb hob
          go_wp2_with fail
          refine hc.mono ?_
          rintro e w1 ⟨rfl, h4⟩
          clear hc
          have h5 := h4.alloc (.cells #[.int .i64 vk, .string ⟨vs.toArray⟩] TEv)
          go_upto_region 10 with fail
          generalize w1.alloc _ = w2 at *
          generalize w1.heap.size = g2 at *
          have c5 := h5.cell
          have hA := ((h5.drop.f2).alloc (.cells #[.int .i64 vk, .string ⟨vs.toArray⟩] TEv)).drop
          go_wp2_with (at_builtin; refine wp_append_elem rfl (.tmp 30) (.tmp 32) rfl tyEv hA ⟨vk, vs⟩ rfl _ rfl (new_cells _ [.int .i64 vk, .string ⟨vs.toArray⟩] _ _ (by simp)) (by omega) ?hk; (case' hk => (intro g off cap w8 h8)))
          go_roundw
          case rel => exact ⟨k + 1, (Y1, X2 ++ [⟨vk, vs⟩]), by omega, by go_num, HY, h8⟩
          case measure => simp [intOf]; omega
      · have hbi : bitsIn (s.data.toList.take (k + 1)) = bitsIn (s.data.toList.take k) := by
          rw [htk, bitsIn_app, bitsIn_cons, if_neg (fun e => hbit (Or.inl (by rw [e]; rfl))), if_neg (fun e => hbit (Or.inr (by rw [e]; rfl)))]
          simp [bitsIn]
        have hib2 : (bits .or .u8 (o.toNat : Int) 1 != 49) = true := by
          rw [hib]
          simp
          omega
        have HY := Lib.hid (show d.feed (bitsIn (s.data.toList.take (k + 1))) = (X1, X2) ∧ X1.Fits ∧ X1.o ≤ 100000000000000010 + (k + 1) ∧ X2.length ≤ k + 1 from ⟨by rw [hbi]; exact x1, x2, by omega, by omega⟩)
        clear hsn hib hbit hbi htk HX x1 x2 x3 x4
        go_wp2
        go_roundw
        case rel => exact ⟨k + 1, (X1, X2), by omega, by go_num, HY, h3⟩
        case measure => simp [intOf]; omega
    · obtain rfl : k = n := by omega
      have htk : s.data.toList.take k = s.data.toList := List.take_of_length_le (by rw [Array.length_toList]; exact Nat.le_of_eq hn)
      obtain ⟨x1, _, _, _⟩ := HX.out
      rw [htk, HZ.out] at x1
      subst x1
      clear htk HX
      go_wp2
      go_ret
      exact ⟨_, rfl, h3⟩
end Go.Proofs.YtnnahljdhdippaaGreatDoor
