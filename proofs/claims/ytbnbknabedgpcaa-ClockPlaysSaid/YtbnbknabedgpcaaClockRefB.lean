/- The reference's clock: Stop, Start, Due. -/
import Derived.Test.YtbnbknabedgpcaaClockRef
namespace Go.Proofs.Ytbnbknabedgpcaa
open Go.RowKit Go.Sort

/-- ahead -/
def aheadB (x y : Key × Int) : Bool := if x.2 = y.2 then (if x.1.1 = y.1.1 then decide (x.1.2 < y.1.2) else decide (x.1.1 < y.1.1)) else decide (x.2 < y.2)
def rput : Tms → Key × Int → Tms
  | [], x => [x]
  | y :: L, x => if aheadB x y = true then x :: y :: L else y :: rput L x

theorem r_ahead (x1 x2 xt y1 y2 yt : Int) (w0 w : World) (R : HP) (h : St w0 w R) :
    Calls Try.prog 53 #[.agg #[.int .i64 x1, .int .i64 x2, .int .i64 xt], .agg #[.int .i64 y1, .int .i64 y2, .int .i64 yt]] w fun e w' => e = .returned (.bool (aheadB ((x1, x2), xt) ((y1, y2), yt))) ∧ St w0 w' R := by
  have h1 := ((h.alloc (.cells #[.int .i64 x1, .int .i64 x2, .int .i64 xt] 64)).drop.alloc (.cells #[.int .i64 y1, .int .i64 y2, .int .i64 yt] 64)).drop
  unfold aheadB
  simp only []
  by_cases e1 : xt = yt
  · rw [if_pos e1]
    have b1 : (xt == yt) = true := by simpa using e1
    by_cases e2 : x1 = y1
    · rw [if_pos e2]
      have b2 : (x1 == y1) = true := by simpa using e2
      clear e1 e2
      go_enter Try.func53, Try.ntmps53
      go_wp2
      go_ret
      exact ⟨rfl, h1⟩
    · rw [if_neg e2]
      have b2 : (x1 == y1) = false := by simpa using e2
      clear e1 e2
      go_enter Try.func53, Try.ntmps53
      go_wp2
      go_ret
      exact ⟨rfl, h1⟩
  · rw [if_neg e1]
    have b1 : (xt == yt) = false := by simpa using e1
    clear e1
    go_enter Try.func53, Try.ntmps53
    go_wp2
    go_ret
    exact ⟨rfl, h1⟩


set_option maxRecDepth 100000 in
theorem r_stop (r : Nat) (L : Tms) (hL : L.length ≤ 100000) (k1 k2 : Int) (w0 w : World) (R : HP) (h : St w0 w (CRef r L * R)) :
    Calls Try.prog 25 #[ptrC r, .int .i64 k1, .int .i64 k2] w fun e w' => e = .returned (.bool (decide ((but L (k1, k2)).length < L.length))) ∧ St w0 w' (CRef r (but L (k1, k2)) * R) := by
  obtain ⟨v, h1⟩ := h.r_open
  obtain ⟨a, cap, rfl, _, _⟩ := h1.f2.l_shape
  obtain ⟨m, hm⟩ : ∃ m, L.length = m := ⟨_, rfl⟩
  have hge : ∀ k : Nat, k < m → ∃ x1 x2 u, L[k]? = some ((x1, x2), u) := fun k hk => ⟨L[k].1.1, L[k].1.2, L[k].2, List.getElem?_eq_getElem (by omega)⟩
  have hst : ∀ (j : Nat) (x : Key × Int), L[j]? = some x → L.take (j + 1) = L.take j ++ [x] := fun j x hj => by rw [List.take_add_one, hj]; rfl
  have hfl : ∀ (j : Nat) (f : Key × Int → Bool), ((L.take j).filter f).length ≤ j := fun j f => Nat.le_trans (List.length_filter_le _ _) (by simp; omega)
  have hen : ∀ k : Nat, k = m → L.take k = L := fun k hk => List.take_of_length_le (by omega)
  rw [hm] at h1 hL
  have HGE := Lib.hid hge
  have HST := Lib.hid hst
  have HFL := Lib.hid hfl
  have HEN := Lib.hid hen
  clear hge hst hfl hen h
  have hkp1 : ∀ x1 x2 u : Int, x1 ≠ k1 → List.filter (fun p : Key × Int => decide (p.1 ≠ (k1, k2))) [((x1, x2), u)] = [((x1, x2), u)] := fun x1 x2 u e => by simp [e]
  have hkp2 : ∀ x1 x2 u : Int, x2 ≠ k2 → List.filter (fun p : Key × Int => decide (p.1 ≠ (k1, k2))) [((x1, x2), u)] = [((x1, x2), u)] := fun x1 x2 u e => by simp [e]
  have hsk : ∀ x1 x2 u : Int, x1 = k1 → x2 = k2 → List.filter (fun p : Key × Int => decide (p.1 ≠ (k1, k2))) [((x1, x2), u)] = [] := fun x1 x2 u e e' => by simp [e, e']
  have HKP1 := Lib.hid hkp1
  have HKP2 := Lib.hid hkp2
  have HSK := Lib.hid hsk
  rw [hm]
  clear hkp1 hkp2 hsk hm
  go_enter Try.func25, Try.ntmps25
  go_wp2
  go_loopw [7, 8] (fun s5 i wr => ∃ k : Nat, k ≤ m ∧ i = .int .i64 k ∧ St w0 wr (LAt 64 3 tmC s5 ((L.take k).filter fun p => decide (p.1 ≠ (k1, k2))) * (blk r (.cells #[.slice a m cap] 58 (0, 0)) * (LAt 64 3 tmC (.slice a m cap) L * R)))) (fun _ i _ => m - (intOf i).toNat)
  case atStart => exact ⟨0, by omega, rfl, h1.l_nil _ _ _⟩
  case round =>
    clear h1
    obtain ⟨k, hk, rfl, h2⟩ := hrel
    obtain ⟨acc, hacc⟩ : ∃ acc, (L.take k).filter (fun p => decide (p.1 ≠ (k1, k2))) = acc := ⟨_, rfl⟩
    have hf := HFL.out k (fun p => decide (p.1 ≠ (k1, k2)))
    rw [hacc] at h2 hf
    have HACC := Lib.hid hacc
    clear hacc
    have c := h2.f2.cell
    obtain ⟨a5, cap5, rfl, _, _⟩ := h2.l_shape
    by_cases hlt : k < m
    · obtain ⟨x1, x2, u, hx⟩ := HGE.out k hlt
      rcases (h2.f3).l_cells tyTm.len with ⟨h0, _⟩ | ⟨g, off, cp, hv, _, _, hcell⟩
      · first | (cases h0; done) | (rw [h0] at hx; simp at hx; done)
      simp only [Value.slice.injEq] at hv
      obtain ⟨rfl, _, rfl⟩ := hv
      have d0 := hcell _ _ hx 0 _ rfl
      have d1 := hcell _ _ hx 1 _ rfl
      have d2 := hcell _ _ hx 2 _ rfl
      clear hcell
      try simp only [Nat.add_zero] at d0
      try simp only [Nat.add_zero] at d1
      try simp only [Nat.add_zero] at d2
      by_cases e1 : x1 = k1
      · have b1 : (x1 == k1) = true := by simpa using e1
        by_cases e2 : x2 = k2
        · have b2 : (x2 == k2) = true := by simpa using e2
          have hkeep := HSK.out x1 x2 u e1 e2
          clear b1 b2
          subst e1 e2
          have HS := Lib.hid (HST.out k _ hx)
          have HK := Lib.hid hkeep
          clear hx hkeep
          go_wp2
          go_roundw
          case rel =>
            refine ⟨k + 1, by omega, by go_num, ?_⟩
            rw [HS.out, List.filter_append, HACC.out, HK.out, List.append_nil]
            exact h2
          case measure => simp [intOf]; omega
        · have b2 : (x2 == k2) = false := by simpa using e2
          have hkeep := HKP2.out x1 x2 u e2
          have bn : (x2 != k2) = true := by simpa using e2
          clear b1
          subst e1
          have hA := (h2.alloc (.cells #[.int .i64 x1, .int .i64 x2, .int .i64 u] 64)).drop
          have HS := Lib.hid (HST.out k _ hx)
          have HK := Lib.hid hkeep
          clear hx hkeep
          go_upto_region 6 with fail
          go_wp2_with (at_builtin; refine wp_append_elem rfl (.tmp 41) (.tmp 49) rfl tyTm hA ((x1, x2), u) rfl _ rfl (new_cells _ [.int .i64 x1, .int .i64 x2, .int .i64 u] _ _ (by simp)) (by omega) ?hk1; (case' hk1 => (intro g2 off2 cap2 w8 h8)))
          go_roundw
          case rel =>
            refine ⟨k + 1, by omega, by go_num, ?_⟩
            rw [HS.out, List.filter_append, HACC.out, HK.out]
            exact h8
          case measure => simp [intOf]; omega
      · have b1 : (x1 == k1) = false := by simpa using e1
        have hkeep := HKP1.out x1 x2 u e1
        have bn : (x1 != k1) = true := by simpa using e1
        have hA := (h2.alloc (.cells #[.int .i64 x1, .int .i64 x2, .int .i64 u] 64)).drop
        have HS := Lib.hid (HST.out k _ hx)
        have HK := Lib.hid hkeep
        clear hx hkeep
        go_upto_region 6 with fail
        go_wp2_with (at_builtin; refine wp_append_elem rfl (.tmp 41) (.tmp 49) rfl tyTm hA ((x1, x2), u) rfl _ rfl (new_cells _ [.int .i64 x1, .int .i64 x2, .int .i64 u] _ _ (by simp)) (by omega) ?hk2; (case' hk2 => (intro g2 off2 cap2 w8 h8)))
        go_roundw
        case rel =>
          refine ⟨k + 1, by omega, by go_num, ?_⟩
          rw [HS.out, List.filter_append, HACC.out, HK.out]
          exact h8
        case measure => simp [intOf]; omega
    · have he := HEN.out k (by omega)
      have hacc : but L (k1, k2) = acc := by unfold but; rw [← HACC.out, he]
      have HF := Lib.hid hacc
      obtain ⟨n, hn⟩ : ∃ n, acc.length = n := ⟨_, rfl⟩
      have HN := Lib.hid hn
      rw [hn] at h2 hf
      rw [hn]
      clear hn he hacc HACC
      have f := h2.f2.free
      have h3 := (h2.f2.set 0 (.slice a5 n cap5)).f3.drop
      go_wp2
      go_ret
      rw [HF.out, HN.out]
      exact ⟨by simp, h3.r_shut⟩

set_option maxRecDepth 100000 in
set_option maxHeartbeats 800000 in
theorem r_due (r : Nat) (L : Tms) (hL : L.length ≤ 100000) (now : Int) (w0 w : World) (R : HP) (h : St w0 w (CRef r L * R)) :
    Calls Try.prog 28 #[ptrC r, .int .i64 now] w fun e w' => ∃ v done rest, e = .returned v ∧ L = done ++ rest ∧ (∀ p ∈ done, p.2 ≤ now) ∧ (∀ p, rest.head? = some p → now < p.2) ∧ St w0 w' (LAt 64 3 tmC v done * (CRef r rest * R)) := by
  obtain ⟨v, h1⟩ := h.r_open
  clear h
  go_enter Try.func28, Try.ntmps28
  go_wp2
  go_loopw [5] (fun s5 wr => ∃ (done rest : Tms) (v : Value), Hid (L = done ++ rest) ∧ Hid (∀ p ∈ done, p.2 ≤ now) ∧ St w0 wr (LAt 64 3 tmC s5 done * (blk r (.cells #[v] 58 (0, 0)) * (LAt 64 3 tmC v rest * R)))) (fun s5 _ => L.length - (match s5 with | .slice _ n _ => n | _ => 0))
  case atStart => exact ⟨[], L, v, Lib.hid rfl, Lib.hid (by simp), h1.l_nil _ _ _⟩
  case round =>
    clear h1
    obtain ⟨done, rest, v, HL, HD, h2⟩ := hrel
    obtain ⟨a5, cap5, rfl, _, _⟩ := h2.l_shape
    have hln : done.length + rest.length = L.length := by rw [HL.out, List.length_append]
    have c := h2.f2.cell
    cases rest with
    | nil =>
      obtain ⟨a, cap, rfl, _, _⟩ := h2.f3.l_shape
      go_wp2
      go_ret
      exact ⟨_, _, _, rfl, HL.out, HD.out, by simp, h2.b3.r_shut.f2⟩
    | cons p rest =>
      obtain ⟨⟨x1, x2⟩, u⟩ := p
      obtain ⟨a, cap, rfl, _, _⟩ := h2.f3.l_shape
      have hx : (((x1, x2), u) :: rest)[0]? = some ((x1, x2), u) := rfl
      rcases (h2.f3).l_cells tyTm.len with ⟨h0, _⟩ | ⟨g, off, cp, hv, _, _, hcell⟩
      · first | (cases h0; done) | (rw [h0] at hx; simp at hx; done)
      simp only [Value.slice.injEq] at hv
      obtain ⟨rfl, _, rfl⟩ := hv
      have d0 := hcell _ _ hx 0 _ rfl
      have d1 := hcell _ _ hx 1 _ rfl
      have d2 := hcell _ _ hx 2 _ rfl
      clear hcell
      try simp only [Nat.add_zero] at d0
      try simp only [Nat.add_zero] at d1
      try simp only [Nat.add_zero] at d2
      try simp only [Nat.zero_mul, Nat.add_zero] at d0 d1 d2
      obtain ⟨m, hm⟩ : ∃ m, rest.length = m := ⟨_, rfl⟩
      rw [List.length_cons, hm] at c h2 hln
      have hm0 : (0 : Int) < (m : Int) + 1 := by omega
      by_cases e : u ≤ now
      · have hA := (h2.alloc (.cells #[.int .i64 x1, .int .i64 x2, .int .i64 u] 64)).drop
        have b1 : decide (u ≤ now) = true := by simpa using e
        have HE := Lib.hid e
        clear hx e
        go_wp2_with (at_builtin; refine wp_append_elem rfl (.tmp 23) (.tmp 30) rfl tyTm hA ((x1, x2), u) rfl _ rfl (new_cells _ [.int .i64 x1, .int .i64 x2, .int .i64 u] _ _ (by simp)) (by omega) ?hk; (case' hk => (intro g2 off2 cap2 w8 h8; have c8 := h8.f2.cell; have f8 := h8.f2.free)))
        have h9 := ((h8.f2.set 0 (.slice (if cap = 1 then some ⟨g, off, none⟩ else some ⟨g, off + 3, none⟩) m (cap - 1))).f3.l_tail tyTm.len).f3.m2
        rw [hm] at h9
        refine ⟨⟨done ++ [((x1, x2), u)], rest, _, Lib.hid (by rw [HL.out]; simp), Lib.hid ?_, h9⟩, ?_⟩
        · intro p hp
          rcases List.mem_append.1 hp with hp | hp
          · exact HD.out p hp
          · simp at hp; subst hp; exact HE.out
        · simp only []; omega
      · have b1 : decide (u ≤ now) = false := by simpa using e
        go_wp2
        go_ret
        exact ⟨_, rfl, _, _, HL.out, fun a b c hp => HD.out _ hp, fun a b c hp => by simp at hp; omega, h2.b3.r_shut.f2⟩
end Go.Proofs.Ytbnbknabedgpcaa
