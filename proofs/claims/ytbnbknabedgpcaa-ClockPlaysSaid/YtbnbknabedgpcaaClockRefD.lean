/- The reference's clock: Start. -/
import Derived.Test.YtbnbknabedgpcaaClockRefC
namespace Go.Proofs.Ytbnbknabedgpcaa
open Go.RowKit Go.Sort

def rstart (L : Tms) (k : Key) (now period : Int) : Tms × Int := if badStart now period = true then (L, 2) else (rput (but L k) (k, now + period), 0)


theorem rput_step {L : Tms} {x y : Key × Int} {k : Nat} (hy : L[k]? = some y) : rput (L.drop k) x = if aheadB x y = true then x :: y :: L.drop (k + 1) else y :: rput (L.drop (k + 1)) x := by
  have hk : k < L.length := (List.getElem?_eq_some_iff.1 hy).1
  have : L.drop k = y :: L.drop (k + 1) := by
    rw [List.drop_eq_getElem_cons hk]
    rw [List.getElem?_eq_getElem hk] at hy
    rw [Option.some.inj hy]
  rw [this]
  rfl
theorem drop_step {L : Tms} {y : Key × Int} {k : Nat} (hy : L[k]? = some y) : L.drop k = y :: L.drop (k + 1) := by
  have hk : k < L.length := (List.getElem?_eq_some_iff.1 hy).1
  rw [List.drop_eq_getElem_cons hk]
  rw [List.getElem?_eq_getElem hk] at hy
  rw [Option.some.inj hy]

set_option maxRecDepth 100000 in
set_option maxHeartbeats 1600000 in
theorem r_start (r : Nat) (L : Tms) (hL : L.length ≤ 100000) (k1 k2 now period : Int) (w0 w : World) (R : HP) (h : St w0 w (CRef r L * R)) :
    Calls Try.prog 29 #[ptrC r, .int .i64 k1, .int .i64 k2, .int .i64 now, .int .i64 period] w fun e w' => e = .returned (.int .i64 (rstart L (k1, k2) now period).2) ∧ St w0 w' (CRef r (rstart L (k1, k2) now period).1 * R) := by
  unfold rstart badStart
  by_cases b1 : now < 0
  · rw [if_pos (by simp [b1])]
    go_enter Try.func29, Try.ntmps29
    go_wp2
    go_ret
    exact ⟨rfl, h⟩
  have b1' : decide (now < 0) = false := by simpa using b1
  by_cases b2 : 9007199254740992 < now
  · rw [if_pos (by simp [b2])]
    go_enter Try.func29, Try.ntmps29
    go_wp2
    go_ret
    exact ⟨rfl, h⟩
  have b2' : decide (9007199254740992 < now) = false := by simpa using b2
  by_cases b3 : period < 1
  · rw [if_pos (by simp [b3])]
    go_enter Try.func29, Try.ntmps29
    go_wp2
    go_ret
    exact ⟨rfl, h⟩
  have b3' : decide (period < 1) = false := by simpa using b3
  by_cases b4 : 1048576 < period
  · rw [if_pos (by simp [b4])]
    go_enter Try.func29, Try.ntmps29
    go_wp2
    go_ret
    exact ⟨rfl, h⟩
  have b4' : decide (1048576 < period) = false := by simpa using b4
  rw [if_neg (by simp; omega)]
  have hw : IntKind.i64.wrap (now + period) = now + period := by rw [IntKind.wrap_i64]; omega
  simp only []
  have hbl : (but L (k1, k2)).length ≤ 100000 := Nat.le_trans (List.length_filter_le _ _) hL
  obtain ⟨Q, hQ⟩ : ∃ Q, rput (but L (k1, k2)) ((k1, k2), now + period) = Q := ⟨_, rfl⟩
  rw [hQ]
  go_enter Try.func29, Try.ntmps29
  go_wp2_with fail
  refine (r_stop r L hL k1 k2 w0 _ _ h).mono ?_
  rintro e w2 ⟨rfl, h2⟩
  obtain ⟨L', hL'⟩ : ∃ L', but L (k1, k2) = L' := ⟨_, rfl⟩
  obtain ⟨xt, hxt⟩ : ∃ xt, now + period = xt := ⟨_, rfl⟩
  rw [hL'] at h2 hbl hQ
  rw [hxt] at hQ hw
  obtain ⟨v, h3⟩ := h2.r_open
  obtain ⟨a, cap, rfl, _, _⟩ := h3.f2.l_shape
  obtain ⟨m, hm⟩ : ∃ m, L'.length = m := ⟨_, rfl⟩
  have hge : ∀ k : Nat, k < m → ∃ x1 x2 u, L'[k]? = some ((x1, x2), u) := fun k hk => ⟨L'[k].1.1, L'[k].1.2, L'[k].2, List.getElem?_eq_getElem (by omega)⟩
  have hen : ∀ k : Nat, k = m → L'.drop k = [] := fun k hk => List.drop_eq_nil_of_le (by omega)
  rw [hm] at h3 hbl
  have h4 := (h3.alloc (.cells #[.int .i64 k1, .int .i64 k2, .int .i64 xt] 64)).l_nil 64 3 tmC
  have HQ := Lib.hid hQ
  have HGE := Lib.hid hge
  have HEN := Lib.hid hen
  clear h h2 h3 hL' hge hen hQ hm
  go_upto_region 8 with fail
  generalize w2.alloc _ = w3 at *
  generalize w2.heap.size = tb at *
  clear hw hxt b1 b1' b2 b2' b3 b3' b4 b4'
  go_loopw [12, 13, 14] (fun s12 s13 i wr => ∃ (k : Nat) (acc : Tms) (put : Bool), k ≤ m ∧ i = .int .i64 k ∧ s13 = .bool put ∧ acc.length ≤ 2 * k + 1 ∧ Hid (Q = if put = true then acc ++ L'.drop k else acc ++ rput (L'.drop k) ((k1, k2), xt)) ∧
      St w0 wr (LAt 64 3 tmC s12 acc * (blk tb (.cells #[.int .i64 k1, .int .i64 k2, .int .i64 xt] 64 (0, 0)) * (blk r (.cells #[.slice a m cap] 58 (0, 0)) * (LAt 64 3 tmC (.slice a m cap) L' * R))))) (fun _ _ i _ => m - (intOf i).toNat)
  case atStart => exact ⟨0, [], false, by omega, rfl, rfl, by simp, Lib.hid (by rw [HQ.out.symm]; simp), h4⟩
  case round =>
    clear h4
    obtain ⟨k, acc, put, hk, rfl, rfl, hal, HI, h5⟩ := hrel
    obtain ⟨a5, cap5, rfl, _, _⟩ := h5.l_shape
    have c := (h5).f3.cell
    have f := (h5).f3.free
    have ct := (h5).f2.cell
    have t0 : (wr).cell? ⟨tb, 0, none⟩ = some (.int .i64 k1) := ct 0
    have t1 : (wr).cell? ⟨tb, 1, none⟩ = some (.int .i64 k2) := ct 1
    have t2 : (wr).cell? ⟨tb, 2, none⟩ = some (.int .i64 xt) := ct 2
    clear ct
    by_cases hlt : k < m
    · obtain ⟨y1, y2, yu, hx⟩ := HGE.out k hlt
      rcases (h5.f4).l_cells tyTm.len with ⟨h0, _⟩ | ⟨g, off, cp, hv, _, _, hcell⟩
      · first | (cases h0; done) | (rw [h0] at hx; simp at hx; done)
      simp only [Value.slice.injEq] at hv
      obtain ⟨rfl, _, rfl⟩ := hv
      have d0 := hcell _ _ hx 0 _ rfl
      have d1 := hcell _ _ hx 1 _ rfl
      have d2 := hcell _ _ hx 2 _ rfl
      clear hcell
      try simp only [Nat.add_zero] at d0
      try simp only [Nat.add_zero] at d1
      try simp only [Nat.add_zero] at d2
      go_upto_region 10 with fail
      go_still_tail 8, (by kernel_rfl)
      change wpList _ _ _ _ _ wr.drew
      have h6 := h5.drew
      clear c f t0 t1 t2 d0 d1 d2 h5
      generalize wr.drew = w5 at *
      go_wp2_with fail
      refine (r_ahead k1 k2 xt y1 y2 yu w0 _ _ h6).mono ?_
      rintro e w6 ⟨rfl, h7⟩
      clear h6
      have c := (h7).f3.cell
      have f := (h7).f3.free
      have ct := (h7).f2.cell
      have t0 : (w6).cell? ⟨tb, 0, none⟩ = some (.int .i64 k1) := ct 0
      have t1 : (w6).cell? ⟨tb, 1, none⟩ = some (.int .i64 k2) := ct 1
      have t2 : (w6).cell? ⟨tb, 2, none⟩ = some (.int .i64 xt) := ct 2
      clear ct
      rcases (h7.f4).l_cells tyTm.len with ⟨h0, _⟩ | ⟨g3, off3, cp3, hv3, _, _, hcell⟩
      · first | (cases h0; done) | (rw [h0] at hx; simp at hx; done)
      simp only [Value.slice.injEq, Option.some.injEq, Addr.mk.injEq] at hv3
      obtain ⟨⟨rfl, rfl, _⟩, _, rfl⟩ := hv3
      have d0 := hcell _ _ hx 0 _ rfl
      have d1 := hcell _ _ hx 1 _ rfl
      have d2 := hcell _ _ hx 2 _ rfl
      clear hcell
      try simp only [Nat.add_zero] at d0
      try simp only [Nat.add_zero] at d1
      try simp only [Nat.add_zero] at d2
      have hds := drop_step hx
      have hrs := rput_step (x := ((k1, k2), xt)) hx
      cases put with
      | true =>
        have HN := Lib.hid (show Q = (acc ++ [((y1, y2), yu)]) ++ L'.drop (k + 1) by rw [HI.out, if_pos rfl, hds]; simp)
        clear hds hrs hx
        go_upto_region 14 with fail
        have hA := ((h7).alloc (.cells #[.int .i64 y1, .int .i64 y2, .int .i64 yu] 64)).drop
        go_wp2_with (at_builtin; refine wp_append_elem rfl (.tmp 67) (.tmp 75) rfl tyTm hA ((y1, y2), yu) rfl _ rfl (new_cells _ [.int .i64 y1, .int .i64 y2, .int .i64 yu] _ _ (by simp)) ?n1b ?n1; (case' n1 => (intro g4 off4 cap4 w9 h9)))
        case n1b => ((try simp); omega)
        go_roundw
        case measure => simp [intOf]; omega
        case rel => exact ⟨k + 1, _, true, by omega, by go_num, rfl, by simp; omega, by rw [if_pos rfl]; exact HN, h9⟩
      | false =>
        cases hb : aheadB ((k1, k2), xt) ((y1, y2), yu) with
        | false =>
          have HN := Lib.hid (show Q = (acc ++ [((y1, y2), yu)]) ++ rput (L'.drop (k + 1)) ((k1, k2), xt) by rw [HI.out, if_neg (by simp), hrs, if_neg (by simp [hb])]; simp)
          clear hds hrs hx
          go_upto_region 14 with fail
          have hA := ((h7).alloc (.cells #[.int .i64 y1, .int .i64 y2, .int .i64 yu] 64)).drop
          go_wp2_with (at_builtin; refine wp_append_elem rfl (.tmp 67) (.tmp 75) rfl tyTm hA ((y1, y2), yu) rfl _ rfl (new_cells _ [.int .i64 y1, .int .i64 y2, .int .i64 yu] _ _ (by simp)) ?n2b ?n2; (case' n2 => (intro g4 off4 cap4 w9 h9)))
          case n2b => ((try simp); omega)
          go_roundw
          case measure => simp [intOf]; omega
          case rel => exact ⟨k + 1, _, false, by omega, by go_num, rfl, by simp; omega, by rw [if_neg (by simp)]; exact HN, h9⟩
        | true =>
          have HN := Lib.hid (show Q = (acc ++ [((k1, k2), xt)] ++ [((y1, y2), yu)]) ++ L'.drop (k + 1) by rw [HI.out, if_neg (by simp), hrs, if_pos hb]; simp)
          have HX := Lib.hid hx
          clear hds hrs hx
          have hX := (h7.alloc (.cells #[.int .i64 k1, .int .i64 k2, .int .i64 xt] 64)).drop
          go_upto_region 14 with (at_builtin; refine wp_append_elem rfl (.tmp 63) (.tmp 65) rfl tyTm hX ((k1, k2), xt) rfl _ rfl (new_cells _ [.int .i64 k1, .int .i64 k2, .int .i64 xt] _ _ (by simp)) ?n3b ?n3; (case' n3 => (intro g2 off2 cap2 w8 h8)))
          case n3b => omega
          clear c f t0 t1 t2 d0 d1 d2 hX h7
          have hx := HX.out
          have c := (h8).f3.cell
          have f := (h8).f3.free
          have ct := (h8).f2.cell
          have t0 : (w8).cell? ⟨tb, 0, none⟩ = some (.int .i64 k1) := ct 0
          have t1 : (w8).cell? ⟨tb, 1, none⟩ = some (.int .i64 k2) := ct 1
          have t2 : (w8).cell? ⟨tb, 2, none⟩ = some (.int .i64 xt) := ct 2
          clear ct
          rcases (h8.f4).l_cells tyTm.len with ⟨h0, _⟩ | ⟨g3, off3, cp3, hv3, _, _, hcell⟩
          · first | (cases h0; done) | (rw [h0] at hx; simp at hx; done)
          simp only [Value.slice.injEq, Option.some.injEq, Addr.mk.injEq] at hv3
          obtain ⟨⟨rfl, rfl, _⟩, _, rfl⟩ := hv3
          have d0 := hcell _ _ hx 0 _ rfl
          have d1 := hcell _ _ hx 1 _ rfl
          have d2 := hcell _ _ hx 2 _ rfl
          clear hcell
          try simp only [Nat.add_zero] at d0
          try simp only [Nat.add_zero] at d1
          try simp only [Nat.add_zero] at d2
          clear hx
          have hA := ((h8).alloc (.cells #[.int .i64 y1, .int .i64 y2, .int .i64 yu] 64)).drop
          go_wp2_with (at_builtin; refine wp_append_elem rfl (.tmp 67) (.tmp 75) rfl tyTm hA ((y1, y2), yu) rfl _ rfl (new_cells _ [.int .i64 y1, .int .i64 y2, .int .i64 yu] _ _ (by simp)) ?n4b ?n4; (case' n4 => (intro g4 off4 cap4 w9 h9)))
          case n4b => ((try simp); omega)
          go_roundw
          case measure => simp [intOf]; omega
          case rel =>
            simp only [List.length_append, List.length_singleton] at h9
            exact ⟨k + 1, acc ++ [((k1, k2), xt)] ++ [((y1, y2), yu)], true, by omega, by go_num, rfl, by simp; omega, by rw [if_pos rfl]; exact HN, h9⟩
    · have hd := HEN.out k (by omega)
      cases put with
      | true =>
        have hq : Q = acc := by rw [HI.out, if_pos rfl, hd]; simp
        have HQ2 := Lib.hid hq
        have h6 := (h5.f3.set 0 (.slice a5 acc.length cap5)).f4.drop.f3.drop
        clear hq hd
        go_wp2
        go_ret
        rw [HQ2.out]
        exact ⟨rfl, h6.r_shut⟩
      | false =>
        have hq : Q = acc ++ [((k1, k2), xt)] := by rw [HI.out, if_neg (by simp), hd]; rfl
        have HQ2 := Lib.hid hq
        clear hq hd
        have hX := (h5.alloc (.cells #[.int .i64 k1, .int .i64 k2, .int .i64 xt] 64)).drop
        go_upto_region 17 with (at_builtin; refine wp_append_elem rfl (.tmp 79) (.tmp 81) rfl tyTm hX ((k1, k2), xt) rfl _ rfl (new_cells _ [.int .i64 k1, .int .i64 k2, .int .i64 xt] _ _ (by simp)) ?n5b ?n5; (case' n5 => (intro g2 off2 cap2 w8 h8)))
        case n5b => omega
        clear c f t0 t1 t2
        have c := (h8).f3.cell
        have f := (h8).f3.free
        have ct := (h8).f2.cell
        have t0 : (w8).cell? ⟨tb, 0, none⟩ = some (.int .i64 k1) := ct 0
        have t1 : (w8).cell? ⟨tb, 1, none⟩ = some (.int .i64 k2) := ct 1
        have t2 : (w8).cell? ⟨tb, 2, none⟩ = some (.int .i64 xt) := ct 2
        clear ct
        have h6 := (h8.f3.set 0 (.slice (some ⟨g2, off2, none⟩) (acc.length + 1) cap2)).f4.drop.f3.drop
        go_wp2
        go_ret
        rw [HQ2.out]
        exact ⟨rfl, h6.r_shut⟩
end Go.Proofs.Ytbnbknabedgpcaa
