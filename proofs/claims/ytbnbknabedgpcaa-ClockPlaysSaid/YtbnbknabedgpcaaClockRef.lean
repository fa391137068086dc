/- The reference's clock: a list in order: what its functions do. -/
import Derived.Test.YtbnbknabedgpcaaWClockParts
import Derived.StillTailTactics
namespace Go.Proofs.Ytbnbknabedgpcaa
open Go.RowKit Go.Sort

abbrev tmC (p : Key × Int) : List Value := [.int .i64 p.1.1, .int .i64 p.1.2, .int .i64 p.2]
theorem tyTm : ETy Try.prog 56 64 3 24 tmC :=
  ⟨Try.underlying56, ⟨.agg #[.int .i64 0, .int .i64 0, .int .i64 0], by kernel_rfl, rfl⟩, fun _ => rfl, fun b u hu => by simp [tmC] at hu; rcases hu with rfl | rfl | rfl <;> rfl, by decide, by decide⟩
def CRef (r : Nat) (L : Tms) : HP := hex fun v : Value => blk r (.cells #[v] 58 (0, 0)) * LAt 64 3 tmC v L

section
variable {w0 w : World} {R : HP} {r : Nat} {L : Tms}
theorem St.r_open (h : St w0 w (CRef r L * R)) : ∃ v, St w0 w (blk r (.cells #[v] 58 (0, 0)) * (LAt 64 3 tmC v L * R)) := by
  obtain ⟨b, h⟩ := h.ex
  exact ⟨b, h.eq (star_assoc _ _ _)⟩
theorem St.r_shut {v : Value} (h : St w0 w (blk r (.cells #[v] 58 (0, 0)) * (LAt 64 3 tmC v L * R))) : St w0 w (CRef r L * R) :=
  St.mk_ex v (h.eq (star_assoc _ _ _).symm)

/-- 'v[1:]' -/
theorem St.l_tail {β : Type} {E : TypeId} {sz n : Nat} {enc : β → List Value} {b : β} {l : List β} {g off cap : Nat} (h : St w0 w (LAt E sz enc (.slice (some ⟨g, off, none⟩) n cap) (b :: l) * R)) (T : ∀ b, (enc b).length = sz) :
    St w0 w (LAt E sz enc (.slice (if cap = 1 then some ⟨g, off, none⟩ else some ⟨g, off + sz, none⟩) l.length (cap - 1)) l * R) := by
  by_cases hc1 : cap = 1
  · subst hc1
    have hlen : n = (b :: l).length ∧ (b :: l).length ≤ 1 := by
      obtain ⟨a, cap, hv, h1, _⟩ := h.l_shape
      simp only [Value.slice.injEq] at hv
      obtain ⟨_, rfl, rfl⟩ := hv
      exact ⟨rfl, h1⟩
    cases l with
    | nil => exact h.drop.l_nil E sz enc _
    | cons c l => simp at hlen
  rw [if_neg hc1]
  rcases h.row with ⟨a0, _, h0, _⟩ | ⟨g', off', cap', cur, hv, h1, h2, h3, h4, hs⟩
  · simp at h0
  · simp only [Value.slice.injEq, Option.some.injEq, Addr.mk.injEq] at hv
    obtain ⟨⟨rfl, rfl, _⟩, hn, rfl⟩ := hv
    obtain ⟨c, rfl⟩ : ∃ c, cap = c + 1 := ⟨cap - 1, by simp at h1; omega⟩
    have hl := encs_len T l
    refine St.row_mk (off := off + sz) (cap := c + 1 - 1) hs hl (by simp at h1; omega) (by omega) (by rw [Nat.add_sub_cancel]; rw [Nat.add_mul] at h3; omega) (fun j hj => ?_)
    have := h4 (sz + j) (by rw [List.length_cons, Nat.add_mul]; omega)
    rw [Nat.add_assoc, this, List.flatMap_cons, List.getElem?_append_right (by rw [T]; omega), T, Nat.add_sub_cancel_left]
end

/-- the head's time -/
def headT (L : Tms) : Int × Bool := match L with | [] => (0, false) | p :: _ => (p.2, true)


theorem r_next (r : Nat) (L : Tms) (w0 w : World) (R : HP) (h : St w0 w (CRef r L * R)) :
    Calls Try.prog 31 #[ptrC r] w fun e w' => e = .returned (.tuple #[.int .i64 (headT L).1, .bool (headT L).2]) ∧ St w0 w' (CRef r L * R) := by
  obtain ⟨v, h1⟩ := h.r_open
  have c := h1.cell
  cases L with
  | nil =>
    obtain ⟨a, cap, rfl, _, _⟩ := h1.f2.l_shape
    go_enter Try.func31, Try.ntmps31
    go_wp2
    go_ret2
    exact ⟨rfl, h⟩
  | cons p L =>
    obtain ⟨⟨x1, x2⟩, xt⟩ := p
    obtain ⟨a, cap, rfl, _, _⟩ := h1.f2.l_shape
    have hx : (((x1, x2), xt) :: L)[0]? = some ((x1, x2), xt) := rfl
    rcases (h1.f2).l_cells tyTm.len with ⟨h0, _⟩ | ⟨g, off, cp, hv, _, _, hcell⟩
    · first | (cases h0; done) | (rw [h0] at hx; simp at hx; done)
    simp only [Value.slice.injEq] at hv
    obtain ⟨rfl, _, rfl⟩ := hv
    have d0 := hcell _ _ hx 0 _ rfl
    have d1 := hcell _ _ hx 1 _ rfl
    have d2 := hcell _ _ hx 2 _ rfl
    clear hcell
    try simp only [Nat.add_zero] at d0
    try simp only [Nat.add_zero] at d1
    try simp only [Nat.add_zero] at d2
    try simp only [Nat.zero_mul, Nat.add_zero] at d0 d1 d2
    obtain ⟨m, hm⟩ : ∃ m, (((x1, x2), xt) :: L).length = m := ⟨_, rfl⟩
    have hm0 : 0 < m := by simp at hm; omega
    rw [hm] at c
    have b1 : ((m : Int) == 0) = false := by simp; omega
    clear hm
    go_enter Try.func31, Try.ntmps31
    go_wp2
    go_ret2
    exact ⟨rfl, h⟩

theorem r_runs (r : Nat) (L : Tms) (hn : (L.map (·.1)).Nodup) (hL : L.length ≤ 100000) (k1 k2 : Int) (w0 w : World) (R : HP) (h : St w0 w (CRef r L * R)) :
    Calls Try.prog 30 #[ptrC r, .int .i64 k1, .int .i64 k2] w fun e w' => e = .returned (.tuple #[.int .i64 ((mlook L (k1, k2)).getD 0), .bool (mlook L (k1, k2)).isSome]) ∧ St w0 w' (CRef r L * R) := by
  obtain ⟨v, h1⟩ := h.r_open
  obtain ⟨a, cap, rfl, _, _⟩ := h1.f2.l_shape
  obtain ⟨m, hm⟩ : ∃ m, L.length = m := ⟨_, rfl⟩
  rw [hm] at h1 hL
  have hno : ∀ k, m ≤ k → (∀ p ∈ L.take k, p.1 ≠ (k1, k2)) → mlook L (k1, k2) = none := fun k hk hp => by
    rw [List.take_of_length_le (by omega)] at hp
    exact mlook_none hp
  have hat : ∀ (j : Nat) (x1 x2 u : Int), L[j]? = some ((x1, x2), u) → x1 = k1 → x2 = k2 → mlook L (k1, k2) = some u := fun j x1 x2 u hj e1 e2 => by
    subst e1 e2
    exact mlook_at (k := (x1, x2)) (u := u) hn hj
  have hst : ∀ (j : Nat) (x : Key) (u : Int), L[j]? = some (x, u) → (∀ p ∈ L.take j, p.1 ≠ (k1, k2)) → x ≠ (k1, k2) → ∀ p ∈ L.take (j + 1), p.1 ≠ (k1, k2) := fun j x u hj hp hx p hp2 => by
    rw [List.take_add_one, hj, List.mem_append] at hp2
    rcases hp2 with hp2 | hp2
    · exact hp p hp2
    · simp at hp2; subst hp2; exact hx
  have hge : ∀ k : Nat, k < m → ∃ x1 x2 u, L[k]? = some ((x1, x2), u) := fun k hk => ⟨L[k].1.1, L[k].1.2, L[k].2, List.getElem?_eq_getElem (by omega)⟩
  have HNO := Lib.hid hno
  have HAT := Lib.hid hat
  have HST := Lib.hid hst
  have HGE := Lib.hid hge
  obtain ⟨ml, hml⟩ : ∃ ml, mlook L (k1, k2) = ml := ⟨_, rfl⟩
  have HML := Lib.hid hml
  rw [hml]
  clear hno hat hst hge hn h hm hml
  go_enter Try.func30, Try.ntmps30
  go_wp2
  go_loopw [8] (fun i wr => ∃ k : Nat, k ≤ m ∧ i = .int .i64 k ∧ (∀ p ∈ L.take k, p.1 ≠ (k1, k2)) ∧ St w0 wr (blk r (.cells #[.slice a m cap] 58 (0, 0)) * (LAt 64 3 tmC (.slice a m cap) L * R))) (fun i _ => m - (intOf i).toNat)
  case atStart => exact ⟨0, by omega, rfl, by simp, h1⟩
  case round =>
    clear h1
    obtain ⟨k, hk, rfl, hall, h2⟩ := hrel
    have c := h2.cell
    have HALL := Lib.hid hall
    clear hall
    by_cases hlt : k < m
    · obtain ⟨x1, x2, u, hx⟩ := HGE.out k hlt
      rcases (h2.f2).l_cells tyTm.len with ⟨h0, _⟩ | ⟨g, off, cp, hv, _, _, hcell⟩
      · first | (cases h0; done) | (rw [h0] at hx; simp at hx; done)
      simp only [Value.slice.injEq] at hv
      obtain ⟨rfl, _, rfl⟩ := hv
      have d0 := hcell _ _ hx 0 _ rfl
      have d1 := hcell _ _ hx 1 _ rfl
      have d2 := hcell _ _ hx 2 _ rfl
      clear hcell
      try simp only [Nat.add_zero] at d0
      try simp only [Nat.add_zero] at d1
      try simp only [Nat.add_zero] at d2
      by_cases e1 : x1 = k1
      · have b1 : (x1 == k1) = true := by simpa using e1
        by_cases e2 : x2 = k2
        · have b2 : (x2 == k2) = true := by simpa using e2
          have he := HAT.out k x1 x2 u hx e1 e2
          rw [HML.out] at he
          subst he
          clear e1 e2 hx
          go_wp2
          go_ret2
          exact ⟨rfl, h2.r_shut⟩
        · have b2 : (x2 == k2) = false := by simpa using e2
          have hs := HST.out k _ _ hx HALL.out (by simp [e2])
          clear e1 e2 hx
          go_wp2
          go_roundw
          case rel => exact ⟨k + 1, by omega, by go_num, hs, h2⟩
          case measure => simp [intOf]; omega
      · have b1 : (x1 == k1) = false := by simpa using e1
        have hs := HST.out k _ _ hx HALL.out (by simp [e1])
        clear e1 hx
        go_wp2
        go_roundw
        case rel => exact ⟨k + 1, by omega, by go_num, hs, h2⟩
        case measure => simp [intOf]; omega
    · obtain rfl : k = m := by omega
      have he := HNO.out k (Nat.le_refl _) HALL.out
      rw [HML.out] at he
      subst he
      go_wp2
      go_ret2
      exact ⟨rfl, h2.r_shut⟩


set_option maxRecDepth 100000 in
theorem r_drop (r : Nat) (L : Tms) (hL : L.length ≤ 100000) (o : Int) (w0 w : World) (R : HP) (h : St w0 w (CRef r L * R)) :
    Calls Try.prog 27 #[ptrC r, .int .i64 o] w fun e w' => e = .returned (.int .i64 ((L.length : Int) - (dropped L o).length)) ∧ St w0 w' (CRef r (dropped L o) * R) := by
  obtain ⟨v, h1⟩ := h.r_open
  obtain ⟨a, cap, rfl, _, _⟩ := h1.f2.l_shape
  obtain ⟨m, hm⟩ : ∃ m, L.length = m := ⟨_, rfl⟩
  have hge : ∀ k : Nat, k < m → ∃ x1 x2 u, L[k]? = some ((x1, x2), u) := fun k hk => ⟨L[k].1.1, L[k].1.2, L[k].2, List.getElem?_eq_getElem (by omega)⟩
  have hst : ∀ (j : Nat) (x : Key × Int), L[j]? = some x → L.take (j + 1) = L.take j ++ [x] := fun j x hj => by rw [List.take_add_one, hj]; rfl
  have hfl : ∀ (j : Nat) (f : Key × Int → Bool), ((L.take j).filter f).length ≤ j := fun j f => Nat.le_trans (List.length_filter_le _ _) (by simp; omega)
  have hen : ∀ k : Nat, k = m → L.take k = L := fun k hk => List.take_of_length_le (by omega)
  rw [hm] at h1 hL
  have HGE := Lib.hid hge
  have HST := Lib.hid hst
  have HFL := Lib.hid hfl
  have HEN := Lib.hid hen
  clear hge hst hfl hen h
  have hkp : ∀ x1 x2 u : Int, x1 ≠ o → List.filter (fun p : Key × Int => decide (p.1.1 ≠ o)) [((x1, x2), u)] = [((x1, x2), u)] := fun x1 x2 u e => by simp [e]
  have hsk : ∀ x1 x2 u : Int, x1 = o → List.filter (fun p : Key × Int => decide (p.1.1 ≠ o)) [((x1, x2), u)] = [] := fun x1 x2 u e => by simp [e]
  have HKP := Lib.hid hkp
  have HSK := Lib.hid hsk
  rw [hm]
  clear hkp hsk hm
  go_enter Try.func27, Try.ntmps27
  go_wp2
  go_loopw [5, 6] (fun s5 i wr => ∃ k : Nat, k ≤ m ∧ i = .int .i64 k ∧ St w0 wr (LAt 64 3 tmC s5 ((L.take k).filter fun p => decide (p.1.1 ≠ o)) * (blk r (.cells #[.slice a m cap] 58 (0, 0)) * (LAt 64 3 tmC (.slice a m cap) L * R)))) (fun _ i _ => m - (intOf i).toNat)
  case atStart => exact ⟨0, by omega, rfl, h1.l_nil _ _ _⟩
  case round =>
    clear h1
    obtain ⟨k, hk, rfl, h2⟩ := hrel
    obtain ⟨acc, hacc⟩ : ∃ acc, (L.take k).filter (fun p => decide (p.1.1 ≠ o)) = acc := ⟨_, rfl⟩
    have hf := HFL.out k (fun p => decide (p.1.1 ≠ o))
    rw [hacc] at h2 hf
    have HACC := Lib.hid hacc
    clear hacc
    have c := h2.f2.cell
    obtain ⟨a5, cap5, rfl, _, _⟩ := h2.l_shape
    by_cases hlt : k < m
    · obtain ⟨x1, x2, u, hx⟩ := HGE.out k hlt
      rcases (h2.f3).l_cells tyTm.len with ⟨h0, _⟩ | ⟨g, off, cp, hv, _, _, hcell⟩
      · first | (cases h0; done) | (rw [h0] at hx; simp at hx; done)
      simp only [Value.slice.injEq] at hv
      obtain ⟨rfl, _, rfl⟩ := hv
      have d0 := hcell _ _ hx 0 _ rfl
      have d1 := hcell _ _ hx 1 _ rfl
      have d2 := hcell _ _ hx 2 _ rfl
      clear hcell
      try simp only [Nat.add_zero] at d0
      try simp only [Nat.add_zero] at d1
      try simp only [Nat.add_zero] at d2
      by_cases e1 : x1 = o
      · have b1 : (x1 == o) = true := by simpa using e1
        have hkeep := HSK.out x1 x2 u e1
        clear e1
        have HS := Lib.hid (HST.out k _ hx)
        have HK := Lib.hid hkeep
        clear hx hkeep
        go_wp2
        go_roundw
        case rel =>
          refine ⟨k + 1, by omega, by go_num, ?_⟩
          rw [HS.out, List.filter_append, HACC.out, HK.out, List.append_nil]
          exact h2
        case measure => simp [intOf]; omega
      · have b1 : (x1 == o) = false := by simpa using e1
        have hkeep := HKP.out x1 x2 u e1
        clear e1
        have hA := (h2.alloc (.cells #[.int .i64 x1, .int .i64 x2, .int .i64 u] 64)).drop
        have HS := Lib.hid (HST.out k _ hx)
        have HK := Lib.hid hkeep
        clear hx hkeep
        go_wp2_with (at_builtin; refine wp_append_elem rfl (.tmp 27) (.tmp 35) rfl tyTm hA ((x1, x2), u) rfl _ rfl (new_cells _ [.int .i64 x1, .int .i64 x2, .int .i64 u] _ _ (by simp)) (by omega) ?hk; (case' hk => (intro g2 off2 cap2 w8 h8)))
        go_roundw
        case rel =>
          refine ⟨k + 1, by omega, by go_num, ?_⟩
          rw [HS.out, List.filter_append, HACC.out, HK.out]
          exact h8
        case measure => simp [intOf]; omega
    · have he := HEN.out k (by omega)
      have hacc : dropped L o = acc := by unfold dropped; rw [← HACC.out, he]
      have HF := Lib.hid hacc
      obtain ⟨n, hn⟩ : ∃ n, acc.length = n := ⟨_, rfl⟩
      have HN := Lib.hid hn
      rw [hn] at h2 hf
      rw [hn]
      clear hn he hacc HACC
      have f := h2.f2.free
      have h3 := (h2.f2.set 0 (.slice a5 n cap5)).f3.drop
      go_wp2
      go_ret
      rw [HF.out, HN.out]
      exact ⟨rfl, h3.r_shut⟩
end Go.Proofs.Ytbnbknabedgpcaa
