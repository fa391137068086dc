/- The reference's source: stray, remove, audit, Put, New. -/
import Derived.Test.YtbnbknabedgpcaaSrcR
namespace Go.Proofs.Ytbnbknabedgpcaa
open Go.RowKit

theorem kind_auto (t : Int) : (kindOf t ≠ 2) ↔ ¬ (64 ≤ t ∧ t ≤ 126) := by
  unfold kindOf
  split
  · simp; omega
  · split
    · simp; omega
    · split
      · simp; omega
      · simp; omega

theorem rs_stray (r : Nat) (x : Sr) (l : List Ef) (t : Int) (hl : l.length ≤ 90000) (w0 w : World) (R : HP) (h : St w0 w (SR r x l * R)) :
    Calls Try.prog 88 #[ptr r, .int .i64 t] w fun e w' => e = .returned (.tuple #[]) ∧ St w0 w' (SR r x (l ++ x.stray t) * R) := by
  obtain ⟨p, v, h1⟩ := h.sr_open
  have c := (h1.cell 0).trans (sc_p _ _ _)
  have hh := ph_has p x.pool t w0 w _ h1.f2
  unfold Sr.stray
  by_cases ha : 64 ≤ t ∧ t ≤ 126
  · cases hb : x.pool.has t with
    | true =>
      rw [if_pos (.inr rfl), List.append_nil]
      rw [hb] at hh
      have hq := rs_auto t w
      rw [decide_eq_true ha] at hq
      clear ha hb
      go_enter Try.func88, Try.ntmps88
      go_wp2_with fail
      refine hq.mono ?_
      rintro e w2 ⟨rfl, rfl⟩
      go_wp2_with fail
      refine hh.mono ?_
      rintro e w3 ⟨rfl, h3⟩
      go_wp2
      go_end0
      exact ⟨rfl, h3.f2.sr_shut rfl rfl⟩
    | false =>
      rw [if_neg (by rw [kind_auto]; simp; exact ha)]
      rw [hb] at hh
      have hq := rs_auto t w
      rw [decide_eq_true ha] at hq
      clear ha hb
      go_enter Try.func88, Try.ntmps88
      go_wp2_with fail
      refine hq.mono ?_
      rintro e w2 ⟨rfl, rfl⟩
      go_wp2_with fail
      refine hh.mono ?_
      rintro e w3 ⟨rfl, h3⟩
      go_wp2_with fail
      refine (rs_say r x l 6 0 t (by omega) _ _ _ (h3.f2.sr_shut rfl rfl)).mono ?_
      rintro e w4 ⟨rfl, h4⟩
      go_wp2
      go_end0
      exact ⟨rfl, h4⟩
  · rw [if_pos (.inl ((kind_auto t).2 ha)), List.append_nil]
    have hq := rs_auto t w
    rw [decide_eq_false ha] at hq
    clear ha
    go_enter Try.func88, Try.ntmps88
    go_wp2_with fail
    refine hq.mono ?_
    rintro e w2 ⟨rfl, rfl⟩
    go_wp2_with fail
    refine hh.mono ?_
    rintro e w3 ⟨rfl, h3⟩
    go_wp2
    go_end0
    exact ⟨rfl, h3.f2.sr_shut rfl rfl⟩

set_option maxRecDepth 100000 in
theorem rs_remove (r : Nat) (x : Sr) (l : List Ef) (i : Nat) (hi : i < 128) (hl : l.length ≤ 80000) (hn : (x.checks.map (·.1)).Nodup) (ha : ∀ c, mlook x.checks (i : Int) = some c → 0 < c.asked) (w0 w : World) (R : HP) (h : St w0 w (SR r x l * R)) :
    Calls Try.prog 82 #[ptr r, .int .i64 (i : Int)] w fun e w' => e = .returned (.tuple #[]) ∧ St w0 w' (SR r (x.remove (i : Int)).1 (l ++ (x.remove (i : Int)).2) * R) := by
  obtain ⟨x', hx'⟩ : ∃ x', (x.remove (i : Int)).1 = x' := ⟨_, rfl⟩
  obtain ⟨l', hl'⟩ : ∃ l', l ++ (x.remove (i : Int)).2 = l' := ⟨_, rfl⟩
  obtain ⟨fb, hfb⟩ : ∃ fb, (x.pool.free (i : Int)).2 = fb := ⟨_, rfl⟩
  have hp : x'.pool = (x.pool.free (i : Int)).1 := by rw [← hx']; rfl
  have hc : updN (chkN x.checks) i (0, 0) = chkN x'.checks := by rw [← chkN_del hn, ← hx']; rfl
  have hL : l' = l ++ ([.said 6 0 (i : Int), .said 6 0 (i : Int)] ++ (if (mlook x.checks (i : Int)).isSome = true then [.of 4 (i : Int)] else []) ++ (if fb = true then [.of 2 (i : Int)] else [])) := by
    rw [← hl', ← hfb]; rfl
  rw [hx', hl']
  have HP := Lib.hid hp
  have HFB := Lib.hid hfb
  clear hx' hl' hfb hp
  have hd : mlook x.checks (i : Int) = none → chkN x.checks = chkN x'.checks := fun hm => by
    rw [← hc]
    funext j
    unfold updN
    by_cases e : j = i
    · rw [if_pos e, e]; unfold chkN; rw [hm]
    · rw [if_neg e]
  go_enter Try.func82, Try.ntmps82
  go_wp2_with fail
  refine (rs_say r x l 6 0 (i : Int) (by omega) _ _ _ h).mono ?_
  rintro e w2 ⟨rfl, h2⟩
  go_wp2_with fail
  refine (rs_say r x _ 6 0 (i : Int) (by simp; omega) _ _ _ h2).mono ?_
  rintro e w3 ⟨rfl, h3⟩
  obtain ⟨p, v, h4⟩ := h3.sr_open
  have ca := (h4.cell (1 + i * 2)).trans (sc_a _ _ _ hi)
  have cn := (h4.cell (1 + i * 2 + 1)).trans (sc_n _ _ _ hi)
  cases hm : mlook x.checks (i : Int) with
  | none =>
    have e1 : (chkN x.checks i).1 = 0 := by unfold chkN; rw [hm]
    rw [e1] at ca
    rw [hm] at hL
    simp only [Option.isSome_none, Bool.false_eq_true, if_false, List.append_nil] at hL
    have HL := Lib.hid hL
    have HC := Lib.hid (hd hm)
    clear hc hd hL ha hm e1 h2 h
    go_upto_region 5 with fail
    clear ca cn h4
    obtain ⟨p2, v2, h6⟩ := (h3).sr_open
    have c2 := (h6.cell 0).trans (sc_p _ _ _)
    go_wp2_with fail
    refine (ph_free p2 x.pool (i : Int) _ _ _ h6.f2).mono ?_
    rintro e w7 ⟨rfl, h7⟩
    rw [HFB.out]
    have h8 := (h7.f2).sr_shut (x := x') HC.out HP.out.symm
    clear c2 h6 h7
    cases fb with
    | false =>
      have HL2 := HL.out
      simp only [Bool.false_eq_true, if_false, List.append_nil] at HL2
      go_wp2
      go_end0
      refine ⟨rfl, ?_⟩
      rw [HL2]
      first | exact h8 | (simpa using h8)
    | true =>
      have HL2 := HL.out
      simp only [if_true] at HL2
      go_wp2_with fail
      refine (rs_tell r x' _ 2 (i : Int) (by simp; omega) _ _ _ h8).mono ?_
      rintro e w9 ⟨rfl, h9⟩
      go_wp2
      go_end0
      refine ⟨rfl, ?_⟩
      rw [HL2]
      first | exact h9 | (simpa using h9)
  | some c =>
    obtain ⟨ct, cka, ckn⟩ := c
    have hpos := ha _ hm
    simp only [] at hpos
    have e1 : (chkN x.checks i).1 = cka := by unfold chkN; rw [hm]
    rw [e1] at ca
    have b1 : decide (0 < cka) = true := by simpa using hpos
    rw [hm] at hL
    simp only [Option.isSome_some, if_true] at hL
    have HL := Lib.hid hL
    have HC0 := Lib.hid hc
    clear hc hd hL ha hm e1 h2 h hpos
    go_wp2_with fail
    clear ca cn h4
    refine (rs_tell r x _ 4 (i : Int) (by simp; omega) _ _ _ h3).mono ?_
    rintro e w5 ⟨rfl, h5⟩
    obtain ⟨p1, v1, h6⟩ := h5.sr_open
    have ca := (h6.cell (1 + i * 2)).trans (sc_a _ _ _ hi)
    have cn := (h6.cell (1 + i * 2 + 1)).trans (sc_n _ _ _ hi)
    have f := h6.free
    have h7 := (h6.set (1 + i * 2) (.int .i64 0)).set (1 + i * 2 + 1) (.int .i64 0)
    rw [sc_set _ _ _ hi] at h7
    clear h3 h5
    have h8 := h7.sr_shut (x := ⟨x.pool, mdel x.checks (i : Int)⟩) (chkN_del hn i).symm rfl
    have HC := Lib.hid (show chkN (mdel x.checks (i : Int)) = chkN x'.checks by rw [chkN_del hn]; exact HC0.out)
    go_upto_region 5 with fail
    clear ca cn f h6 h7
    obtain ⟨p2, v2, h6⟩ := (h8).sr_open
    have c2 := (h6.cell 0).trans (sc_p _ _ _)
    go_wp2_with fail
    refine (ph_free p2 x.pool (i : Int) _ _ _ h6.f2).mono ?_
    rintro e w7 ⟨rfl, h7⟩
    rw [HFB.out]
    have h8 := (h7.f2).sr_shut (x := x') HC.out HP.out.symm
    clear c2 h6 h7
    cases fb with
    | false =>
      have HL2 := HL.out
      simp only [Bool.false_eq_true, if_false, List.append_nil] at HL2
      go_wp2
      go_end0
      refine ⟨rfl, ?_⟩
      rw [HL2]
      first | exact h8 | (simpa using h8)
    | true =>
      have HL2 := HL.out
      simp only [if_true] at HL2
      go_wp2_with fail
      refine (rs_tell r x' _ 2 (i : Int) (by simp; omega) _ _ _ h8).mono ?_
      rintro e w9 ⟨rfl, h9⟩
      go_wp2
      go_end0
      refine ⟨rfl, ?_⟩
      rw [HL2]
      first | exact h9 | (simpa using h9)

theorem auditK_take {x : Sr} {ks : List Nat} {k i : Nat} (h : ks[k]? = some i) : x.auditK (ks.take (k + 1)) = ⟨(x.auditK (ks.take k)).pool, mput (x.auditK (ks.take k)).checks (64 + (i : Int)) ⟨64 + (i : Int), 1, 0⟩⟩ := by
  rw [List.take_add_one, h]
  unfold Sr.auditK
  simp
set_option maxRecDepth 100000 in
set_option maxHeartbeats 1600000 in
theorem rs_audit (r : Nat) (x : Sr) (l : List Ef) (hl : l.length ≤ 80000) (w0 w : World) (R : HP) (h : St w0 w (SR r x l * R)) :
    Calls Try.prog 80 #[ptr r] w fun e w' => e = .returned (.tuple #[]) ∧ St w0 w' (SR r x.audit.1 (l ++ x.audit.2) * R) := by
  unfold Sr.audit auditE
  simp only []
  obtain ⟨ks, hks⟩ : ∃ ks, x.pool.upto 63 = ks := ⟨_, rfl⟩
  have hkl : ks.length ≤ 63 := by rw [← hks]; exact upto_len x.pool 63
  have hlt : ∀ i ∈ ks, i < 63 := fun i hi => by rw [← hks] at hi; exact upto_lt hi
  rw [hks]
  go_enter Try.func80, Try.ntmps80
  go_wp2_with fail
  refine (rs_say r x l 4 0 127 (by omega) _ _ _ h).mono ?_
  rintro e w2 ⟨rfl, h2⟩
  obtain ⟨p, v, h3⟩ := h2.sr_open
  have c := (h3.cell 0).trans (sc_p _ _ _)
  go_wp2_with fail
  refine (ph_list p x.pool _ _ _ h3.f2).mono ?_
  rintro e w4 ⟨v4, rfl, h4⟩
  rw [hks] at h4
  have h5 := h4.b4.f2.sr_shut (x := x) (l := l ++ [.said 4 0 127]) rfl rfl
  obtain ⟨a, cap, rfl, _, _⟩ := h4.row_shape
  obtain ⟨n, hn⟩ : ∃ n, ks.length = n := ⟨_, rfl⟩
  rw [hn] at h5 hkl
  rw [hn]
  have HN := Lib.hid hn
  have HLT := Lib.hid hlt
  have h6 : St w0 w4 (SR r (x.auditK (ks.take 0)) (l ++ [.said 4 0 127] ++ (ks.take 0).map fun (i : Nat) => .of 3 (64 + (i : Int))) * (Row 3 1 (.slice a n cap) n (teis ks) * R)) := by
    rw [List.take_zero, List.map_nil, List.append_nil]
    exact h5
  clear h h2 h3 h4 h5 c hks hlt hn
  go_wp2
  go_loopw [3] (fun i wr => ∃ k : Nat, k ≤ n ∧ i = .int .i64 k ∧ St w0 wr (SR r (x.auditK (ks.take k)) (l ++ [.said 4 0 127] ++ (ks.take k).map fun (i : Nat) => .of 3 (64 + (i : Int))) * (Row 3 1 (.slice a n cap) n (teis ks) * R))) (fun i _ => n - (intOf i).toNat)
  case atStart => exact ⟨0, by omega, rfl, h6⟩
  case round =>
    clear h6
    obtain ⟨k, hk, rfl, h7⟩ := hrel
    by_cases hlk : k < n
    · obtain ⟨i0, hi0⟩ : ∃ i, ks[k]? = some i := ⟨_, List.getElem?_eq_getElem (by rw [HN.out]; exact hlk)⟩
      have hi63 := HLT.out i0 (List.mem_of_getElem? hi0)
      have hAK := auditK_take (x := x) hi0
      have hmt : (ks.take (k + 1)).map (fun (i : Nat) => Ef.of 3 (64 + (i : Int))) = (ks.take k).map (fun (i : Nat) => Ef.of 3 (64 + (i : Int))) ++ [.of 3 (64 + (i0 : Int))] := by
        rw [List.take_add_one, hi0]; simp
      have hml : ((ks.take k).map (fun (i : Nat) => Ef.of 3 (64 + (i : Int)))).length ≤ 63 := by simp; omega
      obtain ⟨i1, hi1⟩ : ∃ i1, 64 + i0 = i1 := ⟨_, rfl⟩
      have hii : 64 + (i0 : Int) = (i1 : Int) := by omega
      rw [hii] at hmt hAK
      have hcN : updN (chkN (x.auditK (ks.take k)).checks) i1 (1, 0) = chkN (x.auditK (ks.take (k + 1))).checks := by
        rw [hAK]
        have := chkN_put (x.auditK (ks.take k)).checks i1 1 0 (i1 : Int)
        exact this.symm
      have hpN : (x.auditK (ks.take k)).pool = (x.auditK (ks.take (k + 1))).pool := rfl
      have hte : (teis ks)[k]? = some (.int .i64 (i1 : Int)) := by simp [teis, hi0, hii]
      obtain ⟨g, off, rfl⟩ : ∃ g off, a = some ⟨g, off, none⟩ := by
        rcases h7.f2.row with ⟨_, _, h0, _⟩ | ⟨g, off, cap', cur, hv, _, _, _, _, _⟩
        · omega
        · simp only [Value.slice.injEq] at hv
          exact ⟨g, off, hv.1⟩
      have d0 : wr.cell? ⟨g, off + k, none⟩ = some (.int .i64 ((i1 : Int))) := (h7.f2.row_cell k (by omega)).trans hte
      obtain ⟨p5, v5, h8⟩ := h7.sr_open
      have ca := (h8.cell (1 + i1 * 2)).trans (sc_a _ _ _ (by omega))
      have cn := (h8.cell (1 + i1 * 2 + 1)).trans (sc_n _ _ _ (by omega))
      have f := h8.free
      have HTE := Lib.hid hte
      have HMT := Lib.hid hmt
      have HCN := Lib.hid hcN
      have hb : i1 < 128 := by omega
      have hb1 : 0 ≤ (i1 : Int) := by omega
      have hb2 : (i1 : Int) < 128 := by omega
      clear hte hmt hcN hAK hi0 h7 hii hi1
      go_upto_region 5 with fail
      go_still_tail 9, (by kernel_rfl)
      change wpList _ _ _ _ _ wr.drew
      have h9 := h8.drew
      have ca := (h9.cell (1 + i1 * 2)).trans (sc_a _ _ _ (by omega))
      have cn := (h9.cell (1 + i1 * 2 + 1)).trans (sc_n _ _ _ (by omega))
      have f := h9.free
      have h10 := (h9.set (1 + i1 * 2) (.int .i64 1)).set (1 + i1 * 2 + 1) (.int .i64 0)
      rw [sc_set _ _ _ (by omega)] at h10
      have h11 := h10.sr_shut (x := x.auditK (ks.take (k + 1))) HCN.out hpN
      clear h8 h9 h10 d0
      generalize wr.drew = w9 at *
      go_upto_region 6 with fail
      generalize (w9.setCell _ _).setCell _ _ = w11 at *
      have d0 : w11.cell? ⟨g, off + k, none⟩ = some (.int .i64 ((i1 : Int))) := (h11.f2.row_cell k (by omega)).trans HTE.out
      clear ca cn f
      go_wp2_with fail
      refine (rs_tell r _ _ 3 ((i1 : Int)) (by rw [List.length_append, List.length_append]; simp only [List.length_singleton]; omega) _ _ _ h11).mono ?_
      rintro e w12 ⟨rfl, h12⟩
      clear h11 d0
      go_wp2
      go_roundw
      case rel =>
        refine ⟨k + 1, by omega, by go_num, ?_⟩
        rw [HMT.out, ← List.append_assoc]
        exact h12
      case measure => simp [intOf]; omega
    · have ht : ks.take k = ks := List.take_of_length_le (by rw [HN.out]; omega)
      rw [ht] at h7
      have h8 := h7.f2.drop
      clear ht h7
      go_wp2
      go_end0
      refine ⟨rfl, ?_⟩
      rw [List.append_assoc] at h8
      exact h8

set_option maxRecDepth 100000 in
theorem rp_put (m : Msg) (w0 w : World) (R : HP) (h : St w0 w R) :
    Calls Try.prog 86 #[.agg m.cells.toArray] w fun e w' => (∃ s, e = .returned (.tuple #[.string s, .int .i64 m.bad])) ∧ St w0 w' R := by
  obtain ⟨ty, ri, ai⟩ := m
  unfold Msg.bad
  simp only [Msg.cells]
  have h1 := (h.alloc (.cells #[.int .i64 ty, .int .i64 ri, .int .i64 ai] 130))
  have h2 := h1.drop
  by_cases a : ty < 1
  · rw [if_pos (.inl a)]
    go_enter Try.func86, Try.ntmps86
    go_wp2
    go_ret2
    exact ⟨⟨_, rfl⟩, h2⟩
  by_cases b : 7 < ty
  · rw [if_pos (.inr b)]
    go_enter Try.func86, Try.ntmps86
    go_wp2
    go_ret2
    exact ⟨⟨_, rfl⟩, h2⟩
  rw [if_neg (by omega)]
  by_cases c : ri < 0
  · rw [if_pos (.inl c)]
    go_enter Try.func86, Try.ntmps86
    go_wp2
    go_ret2
    exact ⟨⟨_, rfl⟩, h2⟩
  by_cases d : 65536 ≤ ri
  · rw [if_pos (.inr d)]
    have d' : decide (65535 < ri) = true := by simp; omega
    go_enter Try.func86, Try.ntmps86
    go_wp2
    go_ret2
    exact ⟨⟨_, rfl⟩, h2⟩
  rw [if_neg (by omega)]
  by_cases g : 0 ≤ ai ∧ ai ≤ 127
  · rw [if_pos g]
    have c' : decide (ri < 0) = false := by simp; omega
    have d' : decide (65535 < ri) = false := by simp; omega
    have g1 : decide (ai < 0) = false := by simp; omega
    have g2 : decide (127 < ai) = false := by simp; omega
    have hc := run_octets (P := Try.prog) (src := 140) (dst := 9) (e := 5) Try.underlying140 Try.underlying5 Try.underlying9 ((w.alloc (.cells #[.int .i64 ty, .int .i64 ri, .int .i64 ai] 130)).alloc (.cells #[.int .u8 15, .int .u8 (wrap64 (ri.tdiv 256) % 256), .int .u8 (ri.tmod 256 % 256), .int .u8 ty, .int .u8 (wrap64 (wrap64 (2 * ai) + 1) % 256)] 5)) ⟨w.heap.size + 1, 0, none⟩ 5 [15, wrap64 (ri.tdiv 256) % 256, ri.tmod 256 % 256, ty, wrap64 (wrap64 (2 * ai) + 1) % 256] 5 rfl
      (by intro n hn; simp only [List.mem_cons, List.not_mem_nil, or_false] at hn; omega) (by intro j hj; rw [add_none]; match j, hj with | 0, _ => simp | 1, _ => simp | 2, _ => simp | 3, _ => simp | 4, _ => simp)
    clear c d g
    go_enter Try.func86, Try.ntmps86
    go_wp2
    go_ret2
    exact ⟨⟨_, rfl⟩, (h1.alloc _).drop.drop⟩
  · rw [if_neg g]
    by_cases g1 : ai < 0
    · go_enter Try.func86, Try.ntmps86
      go_wp2
      go_ret2
      exact ⟨⟨_, rfl⟩, h2⟩
    · have g2 : decide (127 < ai) = true := by simp; omega
      go_enter Try.func86, Try.ntmps86
      go_wp2
      go_ret2
      exact ⟨⟨_, rfl⟩, h2⟩
end Go.Proofs.Ytbnbknabedgpcaa
