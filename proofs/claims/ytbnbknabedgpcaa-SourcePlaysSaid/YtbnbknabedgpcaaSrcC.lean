/- The source of TEIs: an audit; what comes. -/
import Derived.Test.YtbnbknabedgpcaaSrcB
namespace Go.Proofs.Ytbnbknabedgpcaa
open Go.RowKit

theorem kok (n : Int) (h1 : -9223372036854775808 ≤ n) (h2 : n < 9223372036854775808) : kInt.ok n := WalkArith.wf_i64 (by omega)

def Sr.auditK (x : Sr) (l : List Nat) : Sr := ⟨x.pool, l.foldl (fun c (i : Nat) => mput c (64 + (i : Int)) ⟨64 + (i : Int), 1, 0⟩) x.checks⟩
def auditE (l : List Nat) : List Ef := .said 4 0 127 :: l.map fun (i : Nat) => .of 3 (64 + (i : Int))
def Sr.audit (x : Sr) : Sr × List Ef := (x.auditK (x.pool.upto 63), auditE (x.pool.upto 63))

theorem upto_lt {s : Pl} {k i : Nat} (h : i ∈ s.upto k) : i < k := by
  unfold Pl.upto at h
  exact List.mem_range.1 (List.mem_filter.1 h).1

set_option maxRecDepth 100000 in
theorem so_audit (s : Nat) (x : Sr) (w0 w : World) (R : HP) (h : St w0 w (SAt s x * R)) (hn : x.pool.on < 2 ^ 63) :
    Calls Try.prog 33 #[ptr s] w fun e w' => ∃ v, e = .returned v ∧ St w0 w' (EAt v x.audit.2 * (SAt s x.audit.1 * R)) := by
  unfold Sr.audit
  have hlen := upto_len x.pool 63
  have hall : ∀ i ∈ x.pool.upto 63, i < 63 := fun i hi => upto_lt hi
  generalize hL : x.pool.upto 63 = l at *
  have HL := Lib.hid hL
  clear hL
  go_enter Try.func33, Try.ntmps33
  go_wp2_with fail
  refine (so_said 4 0 127 _ _ _ h).mono ?_
  rintro e w1 ⟨rfl, h1⟩
  have h2 := (h1.alloc (.cells #[.int .i64 0, .int .i64 4, .int .i64 0, .int .i64 127, .int .i64 0] 32)).l_mk (enc := Ef.cells) (sz := 5) tyEf.len [.said 4 0 127] 1 rfl (by simp [Ef.said]) (by decide)
  go_wp2_with fail
  refine (so_list s x _ _ _ h2.f2 hn).mono ?_
  rintro e w2 ⟨tv, rfl, h3⟩
  rw [HL.out] at h3
  have h4 := h3.b3.f2
  obtain ⟨ta, tcap, rfl, _, _⟩ := h3.row_shape
  go_wp2
  go_loopw [3, 13] (fun v i wr => ∃ k : Nat, k ≤ l.length ∧ i = .int .i64 k ∧ St w0 wr (EAt v (auditE (l.take k)) * (SAt s (x.auditK (l.take k)) * (Row 3 1 (.slice ta l.length tcap) l.length (teis l) * R)))) (fun _ i _ => l.length - (intOf i).toNat)
  case atStart => exact ⟨0, by omega, rfl, h4⟩
  case round =>
    clear h h1 h2 h3 h4
    obtain ⟨k, hk, rfl, h5⟩ := hrel
    obtain ⟨a, cap, rfl, _, _⟩ := h5.l_shape
    by_cases hlt : k < l.length
    · obtain ⟨i, hi⟩ : ∃ i, l[k]? = some i := ⟨_, List.getElem?_eq_getElem hlt⟩
      have hi63 := hall i (List.mem_of_getElem? hi)
      have ht : l.take (k + 1) = l.take k ++ [i] := by rw [List.take_add_one, hi]; rfl
      rcases h5.f3.row with ⟨a0, _, h0, _⟩ | ⟨tg, toff, tcap', cur, hv, _, _, _, _, _⟩
      · omega
      simp only [Value.slice.injEq] at hv
      obtain ⟨rfl, _, rfl⟩ := hv
      have d0 : wr.cell? ⟨tg, toff + k, none⟩ = some (.int .i64 (64 + (i : Int))) := (h5.f3.row_cell k (by omega)).trans (by simp [teis, hi])
      obtain ⟨p, b, h6⟩ := h5.f2.s_open
      have c6 := h6.cell
      have hkk := kok (64 + (i : Int)) (by omega) (by omega)
      have H5 := Lib.hid h5
      have HT := Lib.hid ht
      have hle : (auditE (l.take k)).length = k + 1 := by simp [auditE]; omega
      have HLE := Lib.hid hle
      clear h5 ht hi hle
      go_wp2_with (first
        | (at_mapUpdate; refine wp_mput rfl (.tmp 20) (.tmp 21) (.tmp 23) 101 rfl tyChk h6.f3 rfl _ rfl hkk ⟨64 + (i : Int), 1, 0⟩ rfl ?_; intro w7 h7; have HA := ((h7.f4.alloc (.cells #[.int .i64 3, .int .i64 0, .int .i64 0, .int .i64 0, .int .i64 (64 + (i : Int))] 32)).drop))
        | (at_builtin; refine wp_append_elem rfl (.tmp 24) (.tmp 27) rfl tyEf HA (Ef.of 3 (64 + (i : Int))) rfl _ rfl (new_cells _ [.int .i64 3, .int .i64 0, .int .i64 0, .int .i64 0, .int .i64 (64 + (i : Int))] _ _ rfl) (by rw [HLE.out]; omega) ?hk))
      case hk =>
        intro g off cap' w8 h8
        have h9 := h8.b4.b3.s_shut.f2
        go_wp2
        go_roundw
        case rel =>
          refine ⟨k + 1, by omega, by go_num, ?_⟩
          have e1 : auditE (l.take (k + 1)) = auditE (l.take k) ++ [Ef.of 3 (64 + (i : Int))] := by rw [HT.out]; simp [auditE]
          have e2 : x.auditK (l.take (k + 1)) = ⟨(x.auditK (l.take k)).pool, mput (x.auditK (l.take k)).checks (64 + (i : Int)) ⟨64 + (i : Int), 1, 0⟩⟩ := by rw [HT.out]; simp [Sr.auditK]
          rw [e1, e2]
          exact h9
        case measure => simp [intOf]; omega
    · obtain rfl : k = l.length := by omega
      go_wp2
      go_ret
      rw [List.take_length] at h5
      refine ⟨_, rfl, ?_⟩
      have h6 := h5.f3.drop
      simp only [List.take_length] at h6 ⊢
      exact h6

/-- what Assign tells -/
def Sr.request (x : Sr) (m : Msg) : Sr × List Ef :=
  if m.ai ≠ 127 then (x, [.said 3 m.ri m.ai])
  else if (Pl.seek 63 x.pool).2.2 = 0 then (⟨(Pl.seek 63 x.pool).1, x.checks⟩, [.said 2 m.ri (Pl.seek 63 x.pool).2.1, .of 1 (Pl.seek 63 x.pool).2.1])
  else ((Sr.audit ⟨(Pl.seek 63 x.pool).1, x.checks⟩).1, .said 3 m.ri m.ai :: (Sr.audit ⟨(Pl.seek 63 x.pool).1, x.checks⟩).2)

theorem seek_on : ∀ (k : Nat) (s : Pl), s.on < 2 ^ 63 → s.last ≤ 62 → (Pl.seek k s).1.on < 2 ^ 63 ∧ (Pl.seek k s).1.last ≤ 62
  | 0, s, h, h2 => ⟨h, h2⟩
  | k + 1, s, h, h2 => by
    unfold Pl.seek
    split
    · exact seek_on k _ h (by simp only []; omega)
    · refine ⟨Nat.or_lt_two_pow h (Nat.pow_lt_pow_right (by decide) (by omega)), by simp only []; omega⟩

set_option maxHeartbeats 1600000 in
set_option maxRecDepth 100000 in
theorem so_request (s : Nat) (x : Sr) (m : Msg) (w0 w : World) (R : HP) (h : St w0 w (SAt s x * R)) (ok : x.Ok) :
    Calls Try.prog 44 #[ptr s, .agg #[.int .i64 m.ty, .int .i64 m.ri, .int .i64 m.ai]] w fun e w' => ∃ v, e = .returned v ∧ St w0 w' (EAt v (x.request m).2 * (SAt s (x.request m).1 * R)) := by
  obtain ⟨ty, ri, ai⟩ := m
  unfold Sr.request
  simp only []
  have h1 := (h.alloc (.cells #[.int .i64 ty, .int .i64 ri, .int .i64 ai] 32))
  by_cases ha : ai = 127
  · rw [if_neg (by simpa using ha)]
    subst ha
    obtain ⟨⟨pl, tei, er⟩, hS⟩ : ∃ r, Pl.seek 63 x.pool = r := ⟨_, rfl⟩
    have hso := seek_on 63 x.pool ok.on ok.last
    rw [hS] at hso ⊢
    simp only [] at hso ⊢
    have HS := Lib.hid hS
    clear hS
    by_cases he : er = 0
    · rw [if_pos he]
      subst he
      have h2 := (h.alloc (.cells #[.int .i64 ty, .int .i64 ri, .int .i64 127] 29))
      go_enter Try.func44, Try.ntmps44
      go_wp2_with fail
      refine (so_said 3 ri 127 _ _ _ h2).mono ?_
      rintro e w1 ⟨rfl, h3⟩
      have h4 := (h3.alloc (.cells #[.int .i64 0, .int .i64 3, .int .i64 ri, .int .i64 127, .int .i64 0] 32))
      have c3 := h3.cell
      have lt3 := h3.lt
      go_upto_region 4 with fail
      generalize w1.alloc _ = w2 at *
      have c4 := h4.f2.cell
      obtain ⟨p, b, h5⟩ := h4.f3.s_open
      have c5 := h5.cell
      go_wp2_with fail
      refine (p_assign p x.pool _ _ _ h5.f2 ok.on ok.last).mono ?_
      rintro e w3 ⟨rfl, h6⟩
      rw [HS.out] at h6 ⊢
      simp only [] at h6 ⊢
      have h7 := h6.f2.s_shut
      have c7 := h7.f3.cell
      go_wp2_with fail
      refine (so_said 2 ri tei _ _ _ h7).mono ?_
      rintro e w4 ⟨rfl, h8⟩
      have h9 := (h8.alloc (.cells #[.int .i64 0, .int .i64 2, .int .i64 ri, .int .i64 tei, .int .i64 0, .int .i64 1, .int .i64 0, .int .i64 0, .int .i64 0, .int .i64 tei] 32)).l_mk (enc := Ef.cells) (sz := 5) tyEf.len [.said 2 ri tei, .of 1 tei] 2 rfl (by simp [Ef.said, Ef.of]) (by decide)
      go_wp2
      go_ret
      exact ⟨_, rfl, h9.f3.drop.f3.drop⟩
    · rw [if_neg he]
      have he' : (er == 0) = false := by simpa using he
      have h2 := (h.alloc (.cells #[.int .i64 ty, .int .i64 ri, .int .i64 127] 29))
      go_enter Try.func44, Try.ntmps44
      go_wp2_with fail
      refine (so_said 3 ri 127 _ _ _ h2).mono ?_
      rintro e w1 ⟨rfl, h3⟩
      have h4 := (h3.alloc (.cells #[.int .i64 0, .int .i64 3, .int .i64 ri, .int .i64 127, .int .i64 0] 32))
      have c3 := h3.cell
      have lt3 := h3.lt
      go_upto_region 4 with fail
      generalize w1.alloc _ = w2 at *
      have c4 := h4.f2.cell
      obtain ⟨p, b, h5⟩ := h4.f3.s_open
      have c5 := h5.cell
      go_wp2_with fail
      refine (p_assign p x.pool _ _ _ h5.f2 ok.on ok.last).mono ?_
      rintro e w3 ⟨rfl, h6⟩
      rw [HS.out] at h6 ⊢
      simp only [] at h6 ⊢
      have h7 := h6.f2.s_shut
      have c7 := h7.f2.cell
      clear c5 c4 c3 h6 h5 h4 h3 h2 h1 h
      go_upto_region 6 with fail
      have HB := ((h7.alloc (.cells #[.int .i64 0, .int .i64 3, .int .i64 ri, .int .i64 127, .int .i64 0] 32)).l_mk (enc := Ef.cells) (sz := 5) tyEf.len [.said 3 ri 127] 1 rfl (by simp [Ef.said]) (by decide)).drew
      have h70 := h7.drew
      obtain ⟨⟨x', l'⟩, hau⟩ : ∃ r, Sr.audit ⟨pl, x.checks⟩ = r := ⟨_, rfl⟩
      have hne : l' ≠ [] := by
        have := congrArg Prod.snd hau
        simp only [Sr.audit, auditE] at this
        rw [← this]
        simp
      have hle : ([Ef.said 3 ri 127].length + l'.length) * 40 ≤ 140737488355328 := by
        have := congrArg (fun r => r.2.length) hau
        simp only [Sr.audit, auditE, List.length_cons, List.length_map] at this
        have h2 := upto_len pl 63
        simp only [List.length_cons, List.length_nil]
        omega
      have hq : ∀ (w : World) (R : HP), St w0 w (SAt s ⟨pl, x.checks⟩ * R) → Calls Try.prog 33 #[ptr s] w fun e w' => ∃ v, e = .returned v ∧ St w0 w' (EAt v l' * (SAt s x' * R)) := by
        intro w R h
        have := so_audit s ⟨pl, x.checks⟩ w0 w R h hso.1
        rw [hau] at this
        exact this
      have HNE := Lib.hid hne
      have HAU := Lib.hid hau
      clear hne hau
      go_region_law (first
        | (go_simp; go_at_call 33; with_reducible refine (hq _ _ HB.f2).mono ?_; rintro e w5 ⟨v, rfl, h10⟩; have HX := h10.f3)
        | (go_simp; go_at_call 33; with_reducible refine (hq _ _ h70).mono ?_; rintro e w5 ⟨v, rfl, h10⟩; have c10 := h10.f3.cell; have HX := ((h10.alloc (.cells #[.int .i64 0, .int .i64 3, .int .i64 ri, .int .i64 127, .int .i64 0] 32)).l_mk (enc := Ef.cells) (sz := 5) tyEf.len [.said 3 ri 127] 1 rfl (by simp [Ef.said]) (by decide)))
        | (refine step_append_l rfl (.tmp 29) (.tmp 31) rfl tyEf HX HNE.out rfl rfl hle ?_; intro g off cap w8 h12))
      all_goals
        go_wp2
        go_ret
        have := HAU.out
        rw [this]
        exact ⟨_, rfl, h12.f3.drop.f3.drop⟩
  · rw [if_pos ha]
    have h2 := (h.alloc (.cells #[.int .i64 ty, .int .i64 ri, .int .i64 ai] 29))
    go_enter Try.func44, Try.ntmps44
    go_wp2_with fail
    refine (so_said 3 ri ai _ _ _ h2).mono ?_
    rintro e w1 ⟨rfl, h3⟩
    have c3 := h3.cell
    have lt3 := h3.lt
    have h4 := (h3.alloc (.cells #[.int .i64 0, .int .i64 3, .int .i64 ri, .int .i64 ai, .int .i64 0] 32))
    have h5 := (h4.alloc (.cells #[.int .i64 0, .int .i64 3, .int .i64 ri, .int .i64 ai, .int .i64 0] 32)).l_mk (enc := Ef.cells) (sz := 5) tyEf.len [.said 3 ri ai] 1 rfl (by simp [Ef.said]) (by decide)
    simp only [World.size_alloc] at h5
    go_wp2
    go_ret
    exact ⟨_, rfl, h5.f2.drop.f2.drop⟩
end Go.Proofs.Ytbnbknabedgpcaa
