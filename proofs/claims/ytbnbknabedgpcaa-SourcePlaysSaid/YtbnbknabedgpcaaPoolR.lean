/- The reference's pool: an array of who is on, and who was told last. -/
import Derived.Test.YtbnbknabedgpcaaGives
namespace Go.Proofs.Ytbnbknabedgpcaa
open Go.RowKit

def bcells (f : Nat → Bool) : List Value := (List.range 128).map fun i => .bool (f i)
def pc (f : Nat → Bool) (told : Int) : Array Value := (bcells f ++ [Value.int .i64 told]).toArray
theorem bcells_len (f : Nat → Bool) : (bcells f).length = 128 := by simp [bcells]
theorem pc_at (f : Nat → Bool) (told : Int) {i : Nat} (h : i < 128) : (pc f told)[i]? = some (.bool (f i)) := by
  unfold pc
  rw [List.getElem?_toArray, List.getElem?_append_left (by rw [bcells_len]; exact h)]
  simp [bcells, h]
theorem pc_told (f : Nat → Bool) (told : Int) : (pc f told)[128]? = some (.int .i64 told) := by
  unfold pc
  rw [List.getElem?_toArray, List.getElem?_append_right (by rw [bcells_len]; exact Nat.le_refl _), bcells_len]
  rfl
theorem pc_size (f : Nat → Bool) (told : Int) : (pc f told).size = 129 := by simp [pc, bcells_len]
theorem pc_set (f : Nat → Bool) (told : Int) {i : Nat} (h : i < 128) (b : Bool) : (pc f told).setIfInBounds i (.bool b) = pc (fun j => if j = i then b else f j) told := by
  apply Array.ext_getElem?
  intro j
  rw [Array.getElem?_setIfInBounds, pc_size]
  by_cases hj : j < 128
  · rw [pc_at _ _ hj, pc_at _ _ hj]
    by_cases e : i = j
    · subst e; rw [if_pos rfl, if_pos (by omega), if_pos rfl]
    · rw [if_neg e, if_neg (fun h => e h.symm)]
  · rw [if_neg (by omega)]
    by_cases e : j = 128
    · subst e; rw [pc_told, pc_told]
    · rw [Array.getElem?_eq_none (by rw [pc_size]; omega), Array.getElem?_eq_none (by rw [pc_size]; omega)]
theorem pc_set_told (f : Nat → Bool) (told t : Int) : (pc f told).setIfInBounds 128 (.int .i64 t) = pc f t := by
  apply Array.ext_getElem?
  intro j
  rw [Array.getElem?_setIfInBounds, pc_size]
  by_cases hj : j < 128
  · rw [if_neg (by omega), pc_at _ _ hj, pc_at _ _ hj]
  · by_cases e : j = 128
    · subst e; rw [if_pos rfl, if_pos (by omega), pc_told]
    · rw [if_neg (fun h => e h.symm), Array.getElem?_eq_none (by rw [pc_size]; omega), Array.getElem?_eq_none (by rw [pc_size]; omega)]

def ToldOk (s : Pl) (t : Int) : Prop := t = 64 + (s.last : Int) ∨ (t = 0 ∧ s.last = 62)
abbrev TP12 : TypeId := 123
def PR (p : Nat) (s : Pl) : HP := hex fun t : {t : Int // ToldOk s t} => blk p (.cells (pc (fun i => s.has (i : Int)) t.1) TP12 (0, 0))
section
variable {w0 w : World} {R : HP} {p : Nat} {s : Pl}
theorem St.pr_open (h : St w0 w (PR p s * R)) : ∃ t, ToldOk s t ∧ St w0 w (blk p (.cells (pc (fun i => s.has (i : Int)) t) TP12 (0, 0)) * R) := by
  obtain ⟨⟨t, ht⟩, h⟩ := h.ex
  exact ⟨t, ht, h⟩
theorem St.pr_shut {t : Int} {f : Nat → Bool} (h : St w0 w (blk p (.cells (pc f t) TP12 (0, 0)) * R)) (ht : ToldOk s t) (hf : ∀ i, i < 128 → f i = s.has (i : Int)) : St w0 w (PR p s * R) := by
  have e : pc f t = pc (fun i => s.has (i : Int)) t := by
    unfold pc bcells
    congr 2
    exact List.map_congr_left fun i hi => by rw [hf i (List.mem_range.1 hi)]
  rw [e] at h
  exact St.mk_ex ⟨t, ht⟩ h
end
theorem has_out {s : Pl} {t : Int} (h : ¬ (64 ≤ t ∧ t ≤ 126)) : s.has t = false := by
  unfold Pl.has
  rw [decide_eq_false h]
  rfl

theorem ph_has (p : Nat) (s : Pl) (tei : Int) (w0 w : World) (R : HP) (h : St w0 w (PR p s * R)) :
    Calls Try.prog 78 #[ptr p, .int .i64 tei] w fun e w' => e = .returned (.bool (s.has tei)) ∧ St w0 w' (PR p s * R) := by
  by_cases b1 : tei < 64
  · rw [has_out (by omega)]
    have b1' : decide (tei < 64) = true := by simpa using b1
    go_enter Try.func78, Try.ntmps78
    go_wp2
    go_ret
    exact ⟨rfl, h⟩
  have b1' : decide (tei < 64) = false := by simpa using b1
  by_cases b2 : 126 < tei
  · rw [has_out (by omega)]
    have b2' : decide (126 < tei) = true := by simpa using b2
    go_enter Try.func78, Try.ntmps78
    go_wp2
    go_ret
    exact ⟨rfl, h⟩
  have b2' : decide (126 < tei) = false := by simpa using b2
  obtain ⟨i, rfl⟩ : ∃ i : Nat, tei = (i : Int) := ⟨tei.toNat, by omega⟩
  obtain ⟨t, ht, h1⟩ := h.pr_open
  have d0 : w.cell? ⟨p, i, none⟩ = some (.bool (s.has (i : Int))) := (h1.cell i).trans (pc_at _ _ (by omega))
  have hi : i < 128 := by omega
  generalize s.has (i : Int) = bb at d0 ⊢
  clear b1 b2 h1
  go_enter Try.func78, Try.ntmps78
  go_wp2
  go_ret
  exact ⟨rfl, h⟩

theorem free_last (s : Pl) (t : Int) : (s.free t).1.last = s.last := by unfold Pl.free; split <;> rfl
theorem free_none {s : Pl} {t : Int} (h : s.has t = false) : (s.free t).1 = s := by unfold Pl.free; rw [if_neg (by simp [h])]
theorem ph_free (p : Nat) (s : Pl) (tei : Int) (w0 w : World) (R : HP) (h : St w0 w (PR p s * R)) :
    Calls Try.prog 85 #[ptr p, .int .i64 tei] w fun e w' => e = .returned (.bool (s.free tei).2) ∧ St w0 w' (PR p (s.free tei).1 * R) := by
  rw [free_snd]
  cases hb : s.has tei with
  | false =>
    rw [free_none hb]
    go_enter Try.func85, Try.ntmps85
    go_wp2_with fail
    refine (ph_has p s tei _ _ _ h).mono ?_
    rintro e w1 ⟨rfl, h1⟩
    rw [hb]
    go_wp2
    go_ret
    exact ⟨rfl, h1⟩
  | true =>
    have hr := has_range hb
    obtain ⟨i, rfl⟩ : ∃ i : Nat, tei = (i : Int) := ⟨tei.toNat, by omega⟩
    have hi : i < 128 := by omega
    go_enter Try.func85, Try.ntmps85
    go_wp2_with fail
    refine (ph_has p s _ _ _ _ h).mono ?_
    rintro e w1 ⟨rfl, h1⟩
    obtain ⟨t, ht, h2⟩ := h1.pr_open
    have d0 : w1.cell? ⟨p, i, none⟩ = some (.bool (s.has (i : Int))) := (h2.cell i).trans (pc_at _ _ hi)
    have f := h2.free
    have h3 := h2.set i (.bool false)
    rw [pc_set _ _ hi] at h3
    have h4 := h3.pr_shut (s := (s.free (i : Int)).1) (by unfold ToldOk; rw [free_last]; exact ht) (fun j hj => by
      rw [has_free]
      by_cases e : j = i
      · subst e; simp
      · have : ¬ ((j : Int) = (i : Int)) := by omega
        simp [e, this])
    rw [hb] at d0 ⊢
    clear h2 h3 h1 h
    go_wp2
    go_ret
    exact ⟨rfl, h4⟩

set_option maxRecDepth 100000 in
theorem ph_list (p : Nat) (s : Pl) (w0 w : World) (R : HP) (h : St w0 w (PR p s * R)) :
    Calls Try.prog 37 #[ptr p] w fun e w' => ∃ v, e = .returned v ∧ St w0 w' (Row 3 1 v (s.upto 63).length (teis (s.upto 63)) * (PR p s * R)) := by
  obtain ⟨i0, hi, hz0, hz1, hz2⟩ := info_parts infoInt
  go_enter Try.func37, Try.ntmps37
  go_wp2
  go_loopw [3, 4] (fun v i wr => ∃ k : Nat, 64 ≤ k ∧ k ≤ 127 ∧ i = .int .i64 (k : Int) ∧ St w0 wr (Row 3 1 v (s.upto (k - 64)).length (teis (s.upto (k - 64))) * (PR p s * R))) (fun _ i _ => 127 - (intOf i).toNat)
  case atStart => exact ⟨64, by omega, by omega, rfl, by simpa [Pl.upto] using h.row_nil 3 1⟩
  case round =>
    clear h
    obtain ⟨k, hk, hk2, rfl, h1⟩ := hrel
    obtain ⟨a, cap, rfl, _, _⟩ := h1.row_shape
    have hlen := upto_len s (k - 64)
    by_cases hlt : k < 127
    · have hh : s.has (k : Int) = s.on.testBit (k - 64) := by
        unfold Pl.has
        rw [show ((k : Int)).toNat - 64 = k - 64 by omega, show decide (64 ≤ (k : Int) ∧ (k : Int) ≤ 126) = true by simp; omega, Bool.true_and]
      obtain ⟨t, ht, h2⟩ := h1.f2.pr_open
      have d0 : wr.cell? ⟨p, k, none⟩ = some (.bool (s.on.testBit (k - 64))) := by rw [← hh]; exact (h2.cell k).trans (pc_at _ _ (by omega))
      have hu := upto_succ s (k - 64)
      rw [show k - 64 + 1 = (k + 1) - 64 by omega] at hu
      have hle : decide ((k : Int) ≤ 126) = true := by simp; omega
      have hk128 : k < 128 := by omega
      cases hb : s.on.testBit (k - 64)
      · rw [hb] at hu d0
        simp only [Bool.false_eq_true, if_false] at hu
        have h3 := h1
        rw [← hu] at h3
        have H3 := Lib.hid h3
        have HU := Lib.hid (congrArg List.length hu)
        clear h1 h2 h3 hu hh
        go_wp2
        go_roundw
        case rel => exact ⟨k + 1, by omega, by omega, by go_num, by rw [← HU.out]; exact H3.out⟩
        case measure => simp [intOf]; omega
      · rw [hb] at hu d0
        simp only [if_true] at hu
        have h3 : St w0 (wr.alloc (.cells #[.int .i64 (k : Int)] 3)) (Row 3 1 (.slice a (s.upto (k - 64)).length cap) (s.upto (k - 64)).length (teis (s.upto (k - 64))) * (PR p s * R)) := (h1.alloc _).drop
        have H3 := Lib.hid h3
        have HU := Lib.hid hu
        clear h1 h2 h3 hu hh
        go_wp2_with (at_builtin; refine wpList_append_row rfl (.tmp 15) (.tmp 17) 22 rfl H3.out Try.underlying22 hi hz0 hz1 hz2 rfl (by decide) rfl ⟨wr.heap.size, 0, none⟩ 1 1 [.int .i64 (k : Int)] rfl (by decide) rfl ?c1 ?c2 ?c3 ?c4 ?c5)
        case c1 => exact one_new _ _ _ _ rfl
        case c2 => intro u hu; simp at hu; subst hu; rfl
        case c3 => unfold maxLen; omega
        case c4 => omega
        case c5 =>
          intro g off cap1 w2 h4
          go_wp2
          go_roundw
          case rel => exact ⟨k + 1, by omega, by omega, by go_num, by
            rw [HU.out]
            have e : (64 : Int) + ((k - 64 : Nat) : Int) = (k : Int) := by omega
            simpa [teis, e] using h4⟩
          case measure => simp [intOf]; omega
    · obtain rfl : k = 127 := by omega
      go_wp2
      go_ret
      exact ⟨_, rfl, h1⟩

set_option maxRecDepth 100000 in
set_option maxHeartbeats 1600000 in
theorem ph_assign (p : Nat) (s : Pl) (w0 w : World) (R : HP) (h : St w0 w (PR p s * R)) (hl : s.last ≤ 62) :
    Calls Try.prog 87 #[ptr p] w fun e w' => e = .returned (.tuple #[.int .i64 (Pl.seek 63 s).2.1, .int .i64 (Pl.seek 63 s).2.2]) ∧ St w0 w' (PR p (Pl.seek 63 s).1 * R) := by
  obtain ⟨told, hto, h0⟩ := h.pr_open
  obtain ⟨res, hres⟩ : ∃ res, Pl.seek 63 s = res := ⟨_, rfl⟩
  have HRES := Lib.hid hres
  rw [hres]
  have c0 := (h0.cell 128).trans (pc_told _ _)
  have HTO := Lib.hid hto
  clear h hres
  go_enter Try.func87, Try.ntmps87
  go_wp2
  go_loopw [4, 5] (fun s4 s5 wr => ∃ (j : Nat) (te : Int) (la : Nat), j ≤ 63 ∧ s4 = .int .i64 te ∧ s5 = .int .i64 (64 + (j : Int)) ∧ la ≤ 62 ∧ (te = 64 + (la : Int) ∨ (te = 0 ∧ la = 62)) ∧ Hid (Pl.seek 63 s = Pl.seek (63 - j) ⟨s.on, la⟩) ∧ Hid (la = (s.last + j) % 63) ∧ St w0 wr (blk p (.cells (pc (fun i => s.has (i : Int)) told) TP12 (0, 0)) * R)) (fun _ i _ => 127 - (intOf i).toNat)
  case atStart => exact ⟨0, told, s.last, by omega, rfl, rfl, hl, hto, Lib.hid rfl, Lib.hid (by omega), h0⟩
  case round =>
    clear h0 c0
    obtain ⟨j, te, la, hj, rfl, rfl, hla62, hte, HSK, HLA, h1⟩ := hrel
    by_cases hlt : j < 63
    · have hw1 : IntKind.i64.wrap (te + 1) = te + 1 := by rw [IntKind.wrap_i64]; omega
      have hw2 : IntKind.i64.wrap (64 + (j : Int) + 1) = 64 + (j : Int) + 1 := by rw [IntKind.wrap_i64]; omega
      have hle : decide (64 + (j : Int) ≤ 126) = true := by simp; omega
      rcases hte with hte | ⟨hte, hla⟩
      · by_cases hla : la = 62
        · have q1 : decide (te + 1 < 64) = false := by simp; omega
          have q2 : decide (126 < te + 1) = true := by simp; omega
          have hi : 64 < 128 := by omega
          obtain ⟨bb, hbb⟩ : ∃ bb, s.on.testBit ((la + 1) % 63) = bb := ⟨_, rfl⟩
          have hh : s.has ((64 : Int)) = bb := by
            unfold Pl.has
            rw [show ((64 : Int)).toNat - 64 = (la + 1) % 63 by omega, decide_eq_true (by omega), Bool.true_and, hbb]
          have e0 : (((64 : Nat)) : Int) = (64 : Int) := by omega
          have d0 : wr.cell? ⟨p, 64, none⟩ = some (.bool bb) := by
            have := (h1.cell (64)).trans (pc_at _ _ hi)
            try simp only [] at this
            rw [e0, hh] at this
            exact this
          clear e0
          have f := h1.free
          have hsk := HSK.out
          rw [HRES.out, show 63 - j = (63 - (j + 1)) + 1 by omega] at hsk
          unfold Pl.seek at hsk
          simp only [] at hsk
          cases bb with
          | true =>
            rw [if_pos hbb] at hsk
            have HK := Lib.hid (HRES.out.trans hsk)
            have HL2 := Lib.hid (show (la + 1) % 63 = (s.last + (j + 1)) % 63 by have := HLA.out; omega)
            clear hsk hh hbb
            go_wp2
            go_roundw
            case rel => exact ⟨j + 1, (64 : Int), (la + 1) % 63, by omega, rfl, by go_num, by omega, .inl (by omega), HK, HL2, h1⟩
            case measure => simp [intOf]; omega
          | false =>
            rw [if_neg (by simp [hbb])] at hsk
            have hlaw := seek_law 63 s
            rw [HRES.out, hsk] at hlaw
            obtain ⟨_, hl2⟩ := hlaw.1 rfl
            have hres := hsk
            have h2 := (h1.set (64) (.bool true)).set 128 (.int .i64 ((64 : Int)))
            rw [pc_set _ _ hi, pc_set_told] at h2
            have h3 := h2.pr_shut (s := ⟨s.on ||| 2 ^ ((la + 1) % 63), (la + 1) % 63⟩) (.inl (by simp only []; omega)) (fun k hk => by
              have := hl2 (k : Int)
              simp only [] at this
              rw [this]
              by_cases e : k = 64
              · have e2 : (k : Int) = 64 + (((la + 1) % 63 : Nat) : Int) := by omega
                rw [if_pos e, decide_eq_true e2, Bool.or_true]
              · have e2 : ¬ ((k : Int) = 64 + (((la + 1) % 63 : Nat) : Int)) := by omega
                rw [if_neg e, decide_eq_false e2, Bool.or_false])
            have ht : wr.cell? ⟨p, 128, none⟩ = some (.int .i64 told) := (h1.cell 128).trans (pc_told _ _)
            have hne : 64 ≠ 128 := by omega
            have HS := Lib.hid hres
            have HI := Lib.hid (show ((64 : Int)) = 64 + (((la + 1) % 63 : Nat) : Int) by omega)
            clear hsk hh hbb h2 hlaw hl2 hres
            go_wp2
            go_ret2
            have e := HS.out
            subst e
            simp only []
            exact ⟨by first | (rw [← HI.out]; done) | (rw [← HI.out]; rfl), h3⟩
        · subst hte
          have q1 : decide (64 + (la : Int) + 1 < 64) = false := by simp; omega
          have q2 : decide (126 < 64 + (la : Int) + 1) = false := by simp; omega
          have hi : 64 + la + 1 < 128 := by omega
          obtain ⟨bb, hbb⟩ : ∃ bb, s.on.testBit ((la + 1) % 63) = bb := ⟨_, rfl⟩
          have hh : s.has (64 + (la : Int) + 1) = bb := by
            unfold Pl.has
            rw [show (64 + (la : Int) + 1).toNat - 64 = (la + 1) % 63 by omega, decide_eq_true (by omega), Bool.true_and, hbb]
          have e0 : (((64 + la + 1 : Nat)) : Int) = 64 + (la : Int) + 1 := by omega
          have d0 : wr.cell? ⟨p, 64 + la + 1, none⟩ = some (.bool bb) := by
            have := (h1.cell (64 + la + 1)).trans (pc_at _ _ hi)
            try simp only [] at this
            rw [e0, hh] at this
            exact this
          clear e0
          have f := h1.free
          have hsk := HSK.out
          rw [HRES.out, show 63 - j = (63 - (j + 1)) + 1 by omega] at hsk
          unfold Pl.seek at hsk
          simp only [] at hsk
          cases bb with
          | true =>
            rw [if_pos hbb] at hsk
            have HK := Lib.hid (HRES.out.trans hsk)
            have HL2 := Lib.hid (show (la + 1) % 63 = (s.last + (j + 1)) % 63 by have := HLA.out; omega)
            clear hsk hh hbb
            go_wp2
            go_roundw
            case rel => exact ⟨j + 1, 64 + (la : Int) + 1, (la + 1) % 63, by omega, rfl, by go_num, by omega, .inl (by omega), HK, HL2, h1⟩
            case measure => simp [intOf]; omega
          | false =>
            rw [if_neg (by simp [hbb])] at hsk
            have hlaw := seek_law 63 s
            rw [HRES.out, hsk] at hlaw
            obtain ⟨_, hl2⟩ := hlaw.1 rfl
            have hres := hsk
            have h2 := (h1.set (64 + la + 1) (.bool true)).set 128 (.int .i64 (64 + (la : Int) + 1))
            rw [pc_set _ _ hi, pc_set_told] at h2
            have h3 := h2.pr_shut (s := ⟨s.on ||| 2 ^ ((la + 1) % 63), (la + 1) % 63⟩) (.inl (by simp only []; omega)) (fun k hk => by
              have := hl2 (k : Int)
              simp only [] at this
              rw [this]
              by_cases e : k = 64 + la + 1
              · have e2 : (k : Int) = 64 + (((la + 1) % 63 : Nat) : Int) := by omega
                rw [if_pos e, decide_eq_true e2, Bool.or_true]
              · have e2 : ¬ ((k : Int) = 64 + (((la + 1) % 63 : Nat) : Int)) := by omega
                rw [if_neg e, decide_eq_false e2, Bool.or_false])
            have ht : wr.cell? ⟨p, 128, none⟩ = some (.int .i64 told) := (h1.cell 128).trans (pc_told _ _)
            have hne : 64 + la + 1 ≠ 128 := by omega
            have HS := Lib.hid hres
            have HI := Lib.hid (show (64 + (la : Int) + 1) = 64 + (((la + 1) % 63 : Nat) : Int) by omega)
            clear hsk hh hbb h2 hlaw hl2 hres
            go_wp2
            go_ret2
            have e := HS.out
            subst e
            simp only []
            exact ⟨by first | (rw [← HI.out]; done) | (rw [← HI.out]; rfl), h3⟩
      · have q1 : decide (te + 1 < 64) = true := by simp; omega
        have hi : 64 < 128 := by omega
        obtain ⟨bb, hbb⟩ : ∃ bb, s.on.testBit ((la + 1) % 63) = bb := ⟨_, rfl⟩
        have hh : s.has ((64 : Int)) = bb := by
          unfold Pl.has
          rw [show ((64 : Int)).toNat - 64 = (la + 1) % 63 by omega, decide_eq_true (by omega), Bool.true_and, hbb]
        have e0 : (((64 : Nat)) : Int) = (64 : Int) := by omega
        have d0 : wr.cell? ⟨p, 64, none⟩ = some (.bool bb) := by
          have := (h1.cell (64)).trans (pc_at _ _ hi)
          try simp only [] at this
          rw [e0, hh] at this
          exact this
        clear e0
        have f := h1.free
        have hsk := HSK.out
        rw [HRES.out, show 63 - j = (63 - (j + 1)) + 1 by omega] at hsk
        unfold Pl.seek at hsk
        simp only [] at hsk
        cases bb with
        | true =>
          rw [if_pos hbb] at hsk
          have HK := Lib.hid (HRES.out.trans hsk)
          have HL2 := Lib.hid (show (la + 1) % 63 = (s.last + (j + 1)) % 63 by have := HLA.out; omega)
          clear hsk hh hbb
          go_wp2
          go_roundw
          case rel => exact ⟨j + 1, (64 : Int), (la + 1) % 63, by omega, rfl, by go_num, by omega, .inl (by omega), HK, HL2, h1⟩
          case measure => simp [intOf]; omega
        | false =>
          rw [if_neg (by simp [hbb])] at hsk
          have hlaw := seek_law 63 s
          rw [HRES.out, hsk] at hlaw
          obtain ⟨_, hl2⟩ := hlaw.1 rfl
          have hres := hsk
          have h2 := (h1.set (64) (.bool true)).set 128 (.int .i64 ((64 : Int)))
          rw [pc_set _ _ hi, pc_set_told] at h2
          have h3 := h2.pr_shut (s := ⟨s.on ||| 2 ^ ((la + 1) % 63), (la + 1) % 63⟩) (.inl (by simp only []; omega)) (fun k hk => by
            have := hl2 (k : Int)
            simp only [] at this
            rw [this]
            by_cases e : k = 64
            · have e2 : (k : Int) = 64 + (((la + 1) % 63 : Nat) : Int) := by omega
              rw [if_pos e, decide_eq_true e2, Bool.or_true]
            · have e2 : ¬ ((k : Int) = 64 + (((la + 1) % 63 : Nat) : Int)) := by omega
              rw [if_neg e, decide_eq_false e2, Bool.or_false])
          have ht : wr.cell? ⟨p, 128, none⟩ = some (.int .i64 told) := (h1.cell 128).trans (pc_told _ _)
          have hne : 64 ≠ 128 := by omega
          have HS := Lib.hid hres
          have HI := Lib.hid (show ((64 : Int)) = 64 + (((la + 1) % 63 : Nat) : Int) by omega)
          clear hsk hh hbb h2 hlaw hl2 hres
          go_wp2
          go_ret2
          have e := HS.out
          subst e
          simp only []
          exact ⟨by first | (rw [← HI.out]; done) | (rw [← HI.out]; rfl), h3⟩
    · obtain rfl : j = 63 := by omega
      have hsk := HSK.out
      rw [HRES.out] at hsk
      have HS := Lib.hid hsk
      have h3 := h1.pr_shut (s := ⟨s.on, la⟩) (by unfold ToldOk; simp only []; have := HTO.out; unfold ToldOk at this; have := HLA.out; omega) (fun k hk => (has_on rfl _))
      clear hsk
      go_wp2
      go_ret2
      have e := HS.out
      subst e
      exact ⟨rfl, h3⟩
end Go.Proofs.Ytbnbknabedgpcaa
