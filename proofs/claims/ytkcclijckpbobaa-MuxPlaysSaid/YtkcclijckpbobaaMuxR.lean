/- The reference's mux: a list in order: New, Leave, Drop, Links. -/
import Derived.Test.YtkcclijckpbobaaMuxB
namespace Go.Proofs.Ytkcclijckpbobaa
open Go.RowKit Go.Sort

abbrev enC (p : En) : List Value := [.int .i64 p.1.1, .int .i64 p.1.2, .int .i64 p.2]
theorem tyEn : ETy Try.prog 32 41 3 24 enC :=
  ⟨Try.underlying32, ⟨.agg #[.int .i64 0, .int .i64 0, .int .i64 0], by kernel_rfl, rfl⟩, fun _ => rfl, fun b u hu => by simp [enC] at hu; rcases hu with rfl | rfl | rfl <;> rfl, by decide, by decide⟩
def MRef (r : Nat) (mo : Int) (L : List En) : HP := hex fun v : Value => blk r (.cells #[.int .i64 mo, v] 65 (0, 0)) * LAt 41 3 enC v L

section
variable {w0 w : World} {R : HP} {r : Nat} {mo : Int} {L : List En}
theorem St.mr_open (h : St w0 w (MRef r mo L * R)) : ∃ v, St w0 w (blk r (.cells #[.int .i64 mo, v] 65 (0, 0)) * (LAt 41 3 enC v L * R)) := by
  obtain ⟨b, h⟩ := h.ex
  exact ⟨b, h.eq (star_assoc _ _ _)⟩
theorem St.mr_shut {v : Value} (h : St w0 w (blk r (.cells #[.int .i64 mo, v] 65 (0, 0)) * (LAt 41 3 enC v L * R))) : St w0 w (MRef r mo L * R) :=
  St.mk_ex v (h.eq (star_assoc _ _ _).symm)
end

theorem mr_new (n : Int) (w0 w : World) (R : HP) (h : St w0 w R) :
    Calls Try.prog 18 #[.int .i64 n] w fun e w' => ∃ r, e = .returned (ptrX r) ∧ St w0 w' (MRef r (mostOf n) [] * R) := by
  have h3 := (h.l_nil 41 3 enC).alloc (.cells #[.int .i64 (mostOf n), .slice none 0 0] 65)
  have H3 := Lib.hid h3
  clear h h3
  by_cases b1 : n < 1
  · have e : mostOf n = 1 := by unfold mostOf; omega
    rw [e] at H3 ⊢
    go_enter Try.func18, Try.ntmps18
    go_wp2
    go_ret
    exact ⟨_, rfl, H3.out.mr_shut⟩
  have b1' : decide (n < 1) = false := by simpa using b1
  by_cases b2 : 128 < n
  · have b2' : decide (128 < n) = true := by simpa using b2
    have e : mostOf n = 128 := by unfold mostOf; omega
    rw [e] at H3 ⊢
    go_enter Try.func18, Try.ntmps18
    go_wp2
    go_ret
    exact ⟨_, rfl, H3.out.mr_shut⟩
  · have b2' : decide (128 < n) = false := by simpa using b2
    have e : mostOf n = n := by unfold mostOf; omega
    rw [e] at H3 ⊢
    go_enter Try.func18, Try.ntmps18
    go_wp2
    go_ret
    exact ⟨_, rfl, H3.out.mr_shut⟩


set_option maxRecDepth 100000 in
theorem mr_drop (r : Nat) (mo : Int) (L : List En) (hL : L.length ≤ 100000) (o : Int) (w0 w : World) (R : HP) (h : St w0 w (MRef r mo L * R)) :
    Calls Try.prog 20 #[ptrX r, .int .i64 o] w fun e w' => e = .returned (.int .i64 ((L.length : Int) - (L.filter fun p => decide (p.2 ≠ o)).length)) ∧ St w0 w' (MRef r mo (L.filter fun p => decide (p.2 ≠ o)) * R) := by
  obtain ⟨v, h1⟩ := h.mr_open
  obtain ⟨a, cap, rfl, _, _⟩ := h1.f2.l_shape
  obtain ⟨m, hm⟩ : ∃ m, L.length = m := ⟨_, rfl⟩
  have hge : ∀ k : Nat, k < m → ∃ x1 x2 u, L[k]? = some ((x1, x2), u) := fun k hk => ⟨L[k].1.1, L[k].1.2, L[k].2, List.getElem?_eq_getElem (by omega)⟩
  have hst : ∀ (j : Nat) (x : En), L[j]? = some x → L.take (j + 1) = L.take j ++ [x] := fun j x hj => by rw [List.take_add_one, hj]; rfl
  have hfl : ∀ (j : Nat) (f : En → Bool), ((L.take j).filter f).length ≤ j := fun j f => Nat.le_trans (List.length_filter_le _ _) (by simp; omega)
  have hen : ∀ k : Nat, k = m → L.take k = L := fun k hk => List.take_of_length_le (by omega)
  rw [hm] at h1 hL
  have HGE := Lib.hid hge
  have HST := Lib.hid hst
  have HFL := Lib.hid hfl
  have HEN := Lib.hid hen
  clear hge hst hfl hen h
  have hkp : ∀ x1 x2 u : Int, u ≠ o → List.filter (fun p : En => decide (p.2 ≠ o)) [((x1, x2), u)] = [((x1, x2), u)] := fun x1 x2 u e => by simp [e]
  have hsk : ∀ x1 x2 u : Int, u = o → List.filter (fun p : En => decide (p.2 ≠ o)) [((x1, x2), u)] = [] := fun x1 x2 u e => by simp [e]
  have HKP := Lib.hid hkp
  have HSK := Lib.hid hsk
  clear hkp hsk
  rw [hm]
  clear hm
  go_enter Try.func20, Try.ntmps20
  go_wp2
  go_loopw [5, 6] (fun s5 i wr => ∃ k : Nat, k ≤ m ∧ i = .int .i64 k ∧ St w0 wr (LAt 41 3 enC s5 ((L.take k).filter fun p => decide (p.2 ≠ o)) * (blk r (.cells #[.int .i64 mo, .slice a m cap] 65 (0, 0)) * (LAt 41 3 enC (.slice a m cap) L * R)))) (fun _ i _ => m - (intOf i).toNat)
  case atStart => exact ⟨0, by omega, rfl, h1.l_nil _ _ _⟩
  case round =>
    clear h1
    obtain ⟨k, hk, rfl, h2⟩ := hrel
    obtain ⟨acc, hacc⟩ : ∃ acc, (L.take k).filter (fun p : En => decide (p.2 ≠ o)) = acc := ⟨_, rfl⟩
    have hf := HFL.out k (fun p : En => decide (p.2 ≠ o))
    rw [hacc] at h2 hf
    have HACC := Lib.hid hacc
    clear hacc
    have c := h2.f2.cell
    obtain ⟨a5, cap5, rfl, _, _⟩ := h2.l_shape
    by_cases hlt : k < m
    · obtain ⟨x1, x2, u, hx⟩ := HGE.out k hlt
      rcases (h2.f3).l_cells tyEn.len with ⟨h0, _⟩ | ⟨g, off, cp, hv, _, _, hcell⟩
      · first | (cases h0; done) | (rw [h0] at hx; simp at hx; done)
      simp only [Value.slice.injEq] at hv
      obtain ⟨rfl, hq, rfl⟩ := hv
      clear hq
      have d0 : wr.cell? ⟨g, off + k * 3, none⟩ = some (.int .i64 x1) := hcell _ _ hx 0 _ rfl
      have d1 : wr.cell? ⟨g, off + k * 3 + 1, none⟩ = some (.int .i64 x2) := hcell _ _ hx 1 _ rfl
      have d2 : wr.cell? ⟨g, off + k * 3 + 2, none⟩ = some (.int .i64 u) := hcell _ _ hx 2 _ rfl
      clear hcell
      by_cases e1 : u = o
      · have hkeep := HSK.out x1 x2 u e1
        have b1 : (u != o) = false := by simpa using e1
        have b2 : (u == o) = true := by simpa using e1
        clear e1
        have HS := Lib.hid (HST.out k _ hx)
        have HK := Lib.hid hkeep
        clear hx hkeep
        go_wp2
        go_roundw
        case rel =>
          refine ⟨k + 1, by omega, by go_num, ?_⟩
          rw [HS.out, List.filter_append, HACC.out, HK.out, List.append_nil]
          exact h2
        case measure => simp [intOf]; omega
      · have b1 : (u != o) = true := by simpa using e1
        have b2 : (u == o) = false := by simpa using e1
        have hkeep := HKP.out x1 x2 u e1
        clear e1
        have hA := (h2.alloc (.cells #[.int .i64 x1, .int .i64 x2, .int .i64 u] 41)).drop
        have HS := Lib.hid (HST.out k _ hx)
        have HK := Lib.hid hkeep
        clear hx hkeep
        go_wp2_with (at_builtin; refine wp_append_elem rfl (.tmp 27) (.tmp 35) rfl tyEn hA ((x1, x2), u) rfl _ rfl (new_cells _ [.int .i64 x1, .int .i64 x2, .int .i64 u] _ _ (by simp)) (by omega) ?hk; (case' hk => (intro g2 off2 cap2 w8 h8)))
        go_roundw
        case rel =>
          refine ⟨k + 1, by omega, by go_num, ?_⟩
          rw [HS.out, List.filter_append, HACC.out, HK.out]
          exact h8
        case measure => simp [intOf]; omega
    · have he := HEN.out k (by omega)
      have hacc : L.filter (fun p => decide (p.2 ≠ o)) = acc := by rw [← HACC.out, he]
      have HF := Lib.hid hacc
      obtain ⟨n, hn⟩ : ∃ n, acc.length = n := ⟨_, rfl⟩
      have HN := Lib.hid hn
      rw [hn] at h2 hf
      rw [hn]
      clear hn he hacc HACC
      have f := h2.f2.free
      have h3 := (h2.f2.set 1 (.slice a5 n cap5)).f3.drop
      go_wp2
      go_ret
      rw [HF.out, HN.out]
      exact ⟨rfl, h3.mr_shut⟩

set_option maxRecDepth 100000 in
theorem mr_links (r : Nat) (mo : Int) (L : List En) (hL : L.length ≤ 100000) (o : Int) (w0 w : World) (R : HP) (h : St w0 w (MRef r mo L * R)) :
    Calls Try.prog 10 #[ptrX r, .int .i64 o] w fun e w' => ∃ v, e = .returned v ∧ St w0 w' (LAt 41 3 enC v (rlinks L o) * (MRef r mo L * R)) := by
  unfold rlinks hasId
  obtain ⟨v, h1⟩ := h.mr_open
  obtain ⟨a, cap, rfl, _, _⟩ := h1.f2.l_shape
  obtain ⟨m, hm⟩ : ∃ m, L.length = m := ⟨_, rfl⟩
  have hge : ∀ k : Nat, k < m → ∃ x1 x2 u, L[k]? = some ((x1, x2), u) := fun k hk => ⟨L[k].1.1, L[k].1.2, L[k].2, List.getElem?_eq_getElem (by omega)⟩
  have hst : ∀ (j : Nat) (x : En), L[j]? = some x → L.take (j + 1) = L.take j ++ [x] := fun j x hj => by rw [List.take_add_one, hj]; rfl
  have hfl : ∀ (j : Nat) (f : En → Bool), ((L.take j).filter f).length ≤ j := fun j f => Nat.le_trans (List.length_filter_le _ _) (by simp; omega)
  have hen : ∀ k : Nat, k = m → L.take k = L := fun k hk => List.take_of_length_le (by omega)
  rw [hm] at h1 hL
  have HGE := Lib.hid hge
  have HST := Lib.hid hst
  have HFL := Lib.hid hfl
  have HEN := Lib.hid hen
  clear hge hst hfl hen h
  have hkp : ∀ x1 x2 u : Int, u = o → List.filter (fun p : En => decide (p.2 = o)) [((x1, x2), u)] = [((x1, x2), u)] := fun x1 x2 u e => by simp [e]
  have hsk : ∀ x1 x2 u : Int, u ≠ o → List.filter (fun p : En => decide (p.2 = o)) [((x1, x2), u)] = [] := fun x1 x2 u e => by simp [e]
  have HKP := Lib.hid hkp
  have HSK := Lib.hid hsk
  clear hkp hsk
  clear hm
  go_enter Try.func10, Try.ntmps10
  go_wp2
  go_loopw [5, 6] (fun s5 i wr => ∃ k : Nat, k ≤ m ∧ i = .int .i64 k ∧ St w0 wr (LAt 41 3 enC s5 ((L.take k).filter fun p => decide (p.2 = o)) * (blk r (.cells #[.int .i64 mo, .slice a m cap] 65 (0, 0)) * (LAt 41 3 enC (.slice a m cap) L * R)))) (fun _ i _ => m - (intOf i).toNat)
  case atStart => exact ⟨0, by omega, rfl, h1.l_nil _ _ _⟩
  case round =>
    clear h1
    obtain ⟨k, hk, rfl, h2⟩ := hrel
    obtain ⟨acc, hacc⟩ : ∃ acc, (L.take k).filter (fun p : En => decide (p.2 = o)) = acc := ⟨_, rfl⟩
    have hf := HFL.out k (fun p : En => decide (p.2 = o))
    rw [hacc] at h2 hf
    have HACC := Lib.hid hacc
    clear hacc
    have c := h2.f2.cell
    obtain ⟨a5, cap5, rfl, _, _⟩ := h2.l_shape
    by_cases hlt : k < m
    · obtain ⟨x1, x2, u, hx⟩ := HGE.out k hlt
      rcases (h2.f3).l_cells tyEn.len with ⟨h0, _⟩ | ⟨g, off, cp, hv, _, _, hcell⟩
      · first | (cases h0; done) | (rw [h0] at hx; simp at hx; done)
      simp only [Value.slice.injEq] at hv
      obtain ⟨rfl, hq, rfl⟩ := hv
      clear hq
      have d0 : wr.cell? ⟨g, off + k * 3, none⟩ = some (.int .i64 x1) := hcell _ _ hx 0 _ rfl
      have d1 : wr.cell? ⟨g, off + k * 3 + 1, none⟩ = some (.int .i64 x2) := hcell _ _ hx 1 _ rfl
      have d2 : wr.cell? ⟨g, off + k * 3 + 2, none⟩ = some (.int .i64 u) := hcell _ _ hx 2 _ rfl
      clear hcell
      by_cases e1 : u = o
      · have hkeep := HKP.out x1 x2 u e1
        have b2 : (u == o) = true := by simpa using e1
        clear e1
        have hA := (h2.alloc (.cells #[.int .i64 x1, .int .i64 x2, .int .i64 u] 41)).drop
        have HS := Lib.hid (HST.out k _ hx)
        have HK := Lib.hid hkeep
        clear hx hkeep
        go_wp2_with (at_builtin; refine wp_append_elem rfl (.tmp 26) (.tmp 34) rfl tyEn hA ((x1, x2), u) rfl _ rfl (new_cells _ [.int .i64 x1, .int .i64 x2, .int .i64 u] _ _ (by simp)) (by omega) ?hk; (case' hk => (intro g2 off2 cap2 w8 h8)))
        go_roundw
        case rel =>
          refine ⟨k + 1, by omega, by go_num, ?_⟩
          rw [HS.out, List.filter_append, HACC.out, HK.out]
          exact h8
        case measure => simp [intOf]; omega
      · have b2 : (u == o) = false := by simpa using e1
        have hkeep := HSK.out x1 x2 u e1
        clear e1
        have HS := Lib.hid (HST.out k _ hx)
        have HK := Lib.hid hkeep
        clear hx hkeep
        go_wp2
        go_roundw
        case rel =>
          refine ⟨k + 1, by omega, by go_num, ?_⟩
          rw [HS.out, List.filter_append, HACC.out, HK.out, List.append_nil]
          exact h2
        case measure => simp [intOf]; omega
    · have he := HEN.out k (by omega)
      have hacc : L.filter (fun p => decide (p.2 = o)) = acc := by rw [← HACC.out, he]
      have HF := Lib.hid hacc
      obtain ⟨n, hn⟩ : ∃ n, acc.length = n := ⟨_, rfl⟩
      have HN := Lib.hid hn
      rw [hn] at h2 hf
      rw [hn]
      clear hn he hacc HACC
      go_wp2
      go_ret
      rw [HF.out]
      have h3 := h2.b3.mr_shut.f2
      rw [← HN.out] at h3 ⊢
      exact ⟨_, rfl, h3⟩

set_option maxRecDepth 100000 in
theorem mr_leave (r : Nat) (mo : Int) (L : List En) (hL : L.length ≤ 100000) (k1 k2 : Int) (w0 w : World) (R : HP) (h : St w0 w (MRef r mo L * R)) :
    Calls Try.prog 19 #[ptrX r, .int .i64 k1, .int .i64 k2] w fun e w' => e = .returned (.bool (rleave L (k1, k2)).2) ∧ St w0 w' (MRef r mo (rleave L (k1, k2)).1 * R) := by
  unfold rleave
  simp only []
  obtain ⟨v, h1⟩ := h.mr_open
  obtain ⟨a, cap, rfl, _, _⟩ := h1.f2.l_shape
  obtain ⟨m, hm⟩ : ∃ m, L.length = m := ⟨_, rfl⟩
  have hge : ∀ k : Nat, k < m → ∃ x1 x2 u, L[k]? = some ((x1, x2), u) := fun k hk => ⟨L[k].1.1, L[k].1.2, L[k].2, List.getElem?_eq_getElem (by omega)⟩
  have hst : ∀ (j : Nat) (x : En), L[j]? = some x → L.take (j + 1) = L.take j ++ [x] := fun j x hj => by rw [List.take_add_one, hj]; rfl
  have hfl : ∀ (j : Nat) (f : En → Bool), ((L.take j).filter f).length ≤ j := fun j f => Nat.le_trans (List.length_filter_le _ _) (by simp; omega)
  have hen : ∀ k : Nat, k = m → L.take k = L := fun k hk => List.take_of_length_le (by omega)
  rw [hm] at h1 hL
  have HGE := Lib.hid hge
  have HST := Lib.hid hst
  have HFL := Lib.hid hfl
  have HEN := Lib.hid hen
  clear hge hst hfl hen h
  have hkp : ∀ x1 x2 u : Int, (x1, x2) ≠ (k1, k2) → List.filter (fun p : En => decide (p.1 ≠ (k1, k2))) [((x1, x2), u)] = [((x1, x2), u)] := fun x1 x2 u e => by simp [e]
  have hsk : ∀ x1 x2 u : Int, (x1, x2) = (k1, k2) → List.filter (fun p : En => decide (p.1 ≠ (k1, k2))) [((x1, x2), u)] = [] := fun x1 x2 u e => by simp [e]
  have HKP := Lib.hid hkp
  have HSK := Lib.hid hsk
  clear hkp hsk
  rw [hm]
  obtain ⟨n0, hn0⟩ : ∃ n0, (L.filter fun p => decide (p.1 ≠ (k1, k2))).length = n0 := ⟨_, rfl⟩
  rw [hn0]
  have HN0 := Lib.hid hn0
  clear hm hn0
  go_enter Try.func19, Try.ntmps19
  go_wp2
  go_loopw [7, 8] (fun s5 i wr => ∃ k : Nat, k ≤ m ∧ i = .int .i64 k ∧ St w0 wr (LAt 41 3 enC s5 ((L.take k).filter fun p => decide (p.1 ≠ (k1, k2))) * (blk r (.cells #[.int .i64 mo, .slice a m cap] 65 (0, 0)) * (LAt 41 3 enC (.slice a m cap) L * R)))) (fun _ i _ => m - (intOf i).toNat)
  case atStart => exact ⟨0, by omega, rfl, h1.l_nil _ _ _⟩
  case round =>
    clear h1
    obtain ⟨k, hk, rfl, h2⟩ := hrel
    obtain ⟨acc, hacc⟩ : ∃ acc, (L.take k).filter (fun p : En => decide (p.1 ≠ (k1, k2))) = acc := ⟨_, rfl⟩
    have hf := HFL.out k (fun p : En => decide (p.1 ≠ (k1, k2)))
    rw [hacc] at h2 hf
    have HACC := Lib.hid hacc
    clear hacc
    have c := h2.f2.cell
    obtain ⟨a5, cap5, rfl, _, _⟩ := h2.l_shape
    by_cases hlt : k < m
    · obtain ⟨x1, x2, u, hx⟩ := HGE.out k hlt
      rcases (h2.f3).l_cells tyEn.len with ⟨h0, _⟩ | ⟨g, off, cp, hv, _, _, hcell⟩
      · first | (cases h0; done) | (rw [h0] at hx; simp at hx; done)
      simp only [Value.slice.injEq] at hv
      obtain ⟨rfl, hq, rfl⟩ := hv
      clear hq
      have d0 : wr.cell? ⟨g, off + k * 3, none⟩ = some (.int .i64 x1) := hcell _ _ hx 0 _ rfl
      have d1 : wr.cell? ⟨g, off + k * 3 + 1, none⟩ = some (.int .i64 x2) := hcell _ _ hx 1 _ rfl
      have d2 : wr.cell? ⟨g, off + k * 3 + 2, none⟩ = some (.int .i64 u) := hcell _ _ hx 2 _ rfl
      clear hcell
      by_cases e1 : x1 = k1
      · have b1 : (x1 == k1) = true := by simpa using e1
        have b1' : (x1 != k1) = false := by simpa using e1
        by_cases e2 : x2 = k2
        · have hkeep := HSK.out x1 x2 u (by rw [e1, e2])
          have b2 : (x2 == k2) = true := by simpa using e2
          have b2' : (x2 != k2) = false := by simpa using e2
          clear e1 e2
          have HS := Lib.hid (HST.out k _ hx)
          have HK := Lib.hid hkeep
          clear hx hkeep
          go_wp2
          go_roundw
          case rel =>
            refine ⟨k + 1, by omega, by go_num, ?_⟩
            rw [HS.out, List.filter_append, HACC.out, HK.out, List.append_nil]
            exact h2
          case measure => simp [intOf]; omega
        · have hkeep := HKP.out x1 x2 u (by simp [e2])
          have b2 : (x2 == k2) = false := by simpa using e2
          have b2' : (x2 != k2) = true := by simpa using e2
          clear e1 e2
          have hA := (h2.alloc (.cells #[.int .i64 x1, .int .i64 x2, .int .i64 u] 41)).drop
          have HS := Lib.hid (HST.out k _ hx)
          have HK := Lib.hid hkeep
          clear hx hkeep
          go_wp2_with (at_builtin; refine wp_append_elem rfl (.tmp 41) (.tmp 49) rfl tyEn hA ((x1, x2), u) rfl _ rfl (new_cells _ [.int .i64 x1, .int .i64 x2, .int .i64 u] _ _ (by simp)) (by omega) ?hk; (case' hk => (intro g2 off2 cap2 w8 h8)))
          go_roundw
          case rel =>
            refine ⟨k + 1, by omega, by go_num, ?_⟩
            rw [HS.out, List.filter_append, HACC.out, HK.out]
            exact h8
          case measure => simp [intOf]; omega
      · have b1 : (x1 == k1) = false := by simpa using e1
        have b1' : (x1 != k1) = true := by simpa using e1
        have hkeep := HKP.out x1 x2 u (by simp [e1])
        clear e1
        have hA := (h2.alloc (.cells #[.int .i64 x1, .int .i64 x2, .int .i64 u] 41)).drop
        have HS := Lib.hid (HST.out k _ hx)
        have HK := Lib.hid hkeep
        clear hx hkeep
        go_wp2_with (at_builtin; refine wp_append_elem rfl (.tmp 41) (.tmp 49) rfl tyEn hA ((x1, x2), u) rfl _ rfl (new_cells _ [.int .i64 x1, .int .i64 x2, .int .i64 u] _ _ (by simp)) (by omega) ?hk2; (case' hk2 => (intro g2 off2 cap2 w8 h8)))
        go_roundw
        case rel =>
          refine ⟨k + 1, by omega, by go_num, ?_⟩
          rw [HS.out, List.filter_append, HACC.out, HK.out]
          exact h8
        case measure => simp [intOf]; omega
    · have he := HEN.out k (by omega)
      have hacc : L.filter (fun p => decide (p.1 ≠ (k1, k2))) = acc := by rw [← HACC.out, he]
      have HF := Lib.hid hacc
      obtain ⟨n, hn⟩ : ∃ n, acc.length = n := ⟨_, rfl⟩
      have HN := Lib.hid hn
      rw [hn] at h2 hf
      rw [hn]
      clear hn he hacc HACC
      have f := h2.f2.free
      have h3 := (h2.f2.set 1 (.slice a5 n cap5)).f3.drop
      have hnn : n = n0 := by rw [← HN.out, ← HF.out]; exact HN0.out
      subst hnn
      go_wp2
      go_ret
      rw [HF.out]
      exact ⟨rfl, h3.mr_shut⟩
end Go.Proofs.Ytkcclijckpbobaa
