/- The source: Timeout, Remove, Checks. -/
import Derived.Test.YtbnbknabedgpcaaSrcD
import Derived.Test.YtbnbknabedgpcaaKeys
namespace Go.Proofs.Ytbnbknabedgpcaa
open Go.RowKit

def Sr.timeout (x : Sr) (t : Int) : Sr × List Ef :=
  match mlook x.checks t with
  | none => (x, [])
  | some c => if c.ans = 0 ∧ c.asked = 1 then x.ask t else if 0 < c.ans then (⟨x.pool, mdel x.checks t⟩, []) else (⟨(x.pool.free t).1, mdel x.checks t⟩, [.of 2 t])


set_option maxRecDepth 100000 in
theorem so_timeout (s : Nat) (x : Sr) (tei : Int) (w0 w : World) (R : HP) (h : St w0 w (SAt s x * R)) (ok : x.Ok) (hk : kInt.ok tei) :
    Calls Try.prog 34 #[ptr s, .int .i64 tei] w fun e w' => ∃ v, e = .returned v ∧ St w0 w' (EAt v (x.timeout tei).2 * (SAt s (x.timeout tei).1 * R)) := by
  obtain ⟨p, b, h1⟩ := h.s_open
  have c := h1.cell
  have lt := h1.lt
  unfold Sr.timeout
  cases hr : mlook x.checks tei with
  | none =>
    have hl := h1.f3.chk_none hk hr
    have h2 := (h.alloc (.cells #[.int .i64 0, .int .i64 0, .int .i64 0] 91)).drop
    simp only []
    go_enter Try.func34, Try.ntmps34
    go_wp2
    go_ret
    exact ⟨_, rfl, h2.l_nil _ _ _⟩
  | some cc =>
    obtain ⟨ct, ca, cn⟩ := cc
    have hm := ok.all _ (mlook_mem hr)
    simp only [] at hm
    obtain ⟨hct, hm⟩ := hm
    subst ct
    have hl := h1.f3.chk_some hk hr
    have h2 := h1.alloc (.cells #[.int .i64 tei, .int .i64 ca, .int .i64 cn] 91)
    simp only []
    by_cases hA : cn = 0 ∧ ca = 1
    · rw [if_pos hA]
      obtain ⟨rfl, rfl⟩ := hA
      have h3 := (h.alloc (.cells #[.int .i64 tei, .int .i64 1, .int .i64 0] 91)).drop
      have ha := so_ask s x tei _ _ _ h3 hk (by rw [hr]; simp)
      go_enter Try.func34, Try.ntmps34
      go_wp2_with fail
      refine ha.mono ?_
      rintro e w2 ⟨v, rfl, h4⟩
      go_wp2
      go_ret
      exact ⟨_, rfl, h4⟩
    rw [if_neg hA]
    by_cases hB : 0 < cn
    · obtain rfl : cn = 1 := by omega
      rw [if_pos hB]
      clear hA hB
      go_enter Try.func34, Try.ntmps34
      go_upto_region 8 with fail
      generalize w.alloc _ = w2 at *
      clear h h1 c lt hl
      have c2 := h2.cell
      have c3 := h2.f2.cell
      go_wp2_with (at_delete; refine wp_mdel rfl (.tmp 36) (.tmp 37) 101 3 rfl tyChk h2.f4 rfl tei rfl hk ?_; intro w3 h3; have h4 := h3.b4; have c4 := h4.cell; have c5 := h4.f2.cell; clear c2 c3)
      go_ret
      exact ⟨_, rfl, (h4.drop.s_shut).l_nil _ _ _⟩
    · obtain rfl : cn = 0 := by omega
      obtain rfl : ca = 2 := by omega
      rw [if_neg hB]
      have hon := ok.on
      clear hA hB
      go_enter Try.func34, Try.ntmps34
      go_upto_region 8 with fail
      generalize w.alloc _ = w2 at *
      clear h h1 c lt hl
      have c2 := h2.cell
      have c3 := h2.f2.cell
      go_wp2_with (at_delete; refine wp_mdel rfl (.tmp 36) (.tmp 37) 101 3 rfl tyChk h2.f4 rfl tei rfl hk ?_; intro w3 h3; have h4 := h3.b4; have c4 := h4.cell; have c5 := h4.f2.cell; clear c2 c3)
      refine (p_free p x.pool tei _ _ _ h4.f3 hon).mono ?_
      rintro e w5 ⟨rfl, h5⟩
      go_wp2
      go_ret
      have h6 := (h5.alloc (.cells (Ef.of 2 tei).cells.toArray TE)).l_mk (enc := Ef.cells) (sz := 5) tyEf.len [.of 2 tei] 1 rfl (by simp [Ef.of]) (by decide)
      exact ⟨_, rfl, (h6.f3.drop.b4.f2.s_shut).f2⟩

def Sr.removeP (x : Sr) (t : Int) : Sr × List Ef × Int := if kindOf t ≠ 2 then (x, [], 2) else ((x.remove t).1, (x.remove t).2, 0)
theorem so_removeP (s : Nat) (x : Sr) (tei : Int) (w0 w : World) (R : HP) (h : St w0 w (SAt s x * R)) (ok : x.Ok) (hk : kInt.ok tei) :
    Calls Try.prog 40 #[ptr s, .int .i64 tei] w fun e w' => ∃ v, e = .returned (.tuple #[v, .int .i64 (x.removeP tei).2.2]) ∧ St w0 w' (EAt v (x.removeP tei).2.1 * (SAt s (x.removeP tei).1 * R)) := by
  have ha := a_kind tei w
  have hrm := so_remove s x tei w0 w R h hk ok.on
  unfold Sr.removeP
  by_cases hc : kindOf tei = 2
  · rw [if_neg (by simpa using hc)]
    rw [hc] at ha
    go_enter Try.func40, Try.ntmps40
    go_wp2_with fail
    refine ha.mono ?_
    rintro e w' ⟨rfl, rfl⟩
    go_wp2_with fail
    refine hrm.mono ?_
    rintro e w2 ⟨v, rfl, h2⟩
    go_wp2
    go_ret2
    exact ⟨_, rfl, h2⟩
  · rw [if_pos (by simpa using hc)]
    obtain ⟨q, hq⟩ : ∃ q, kindOf tei = q := ⟨_, rfl⟩
    rw [hq] at ha hc
    have b1 : (q != 2) = true := by simpa using hc
    have b2 : (q == 2) = false := by simpa using hc
    go_enter Try.func40, Try.ntmps40
    go_wp2_with fail
    refine ha.mono ?_
    rintro e w' ⟨rfl, rfl⟩
    go_wp2
    go_ret2
    exact ⟨_, rfl, h.l_nil _ _ _⟩

/-- Checks -/
def Sr.chks (x : Sr) : List Chk := (sortI (x.checks.map (·.1))).map fun t => (mlook x.checks t).getD ⟨0, 0, 0⟩
abbrev TC : TypeId := 91
theorem tyCk : ETy Try.prog 69 TC 3 24 Chk.cells :=
  ⟨Try.underlying69, ⟨.agg #[.int .i64 0, .int .i64 0, .int .i64 0], by kernel_rfl, rfl⟩, fun _ => rfl, fun b u hu => by simp [Chk.cells] at hu; rcases hu with rfl | rfl | rfl <;> rfl, by decide, by decide⟩
theorem intC_len : ∀ n : Int, (intC n).length = 1 := fun _ => rfl

set_option maxRecDepth 100000 in
theorem so_checks (s : Nat) (x : Sr) (w0 w : World) (R : HP) (h : St w0 w (SAt s x * R)) (hl : x.checks.length ≤ 1000000) :
    Calls Try.prog 32 #[ptr s] w fun e w' => ∃ v, e = .returned v ∧ St w0 w' (LAt TC 3 Chk.cells v x.chks * (SAt s x * R)) := by
  obtain ⟨p, b, h1⟩ := h.s_open
  have c := h1.cell
  have hok := h1.f3.map.1
  have hks : ∀ t ∈ sortI (x.checks.map (·.1)), kInt.ok t := fun t ht => by
    obtain ⟨q, hq, rfl⟩ := List.mem_map.1 ((List.mergeSort_perm _ _).mem_iff.1 ht)
    exact hok q hq
  have hlen : (sortI (x.checks.map (·.1))).length = x.checks.length := by rw [(List.mergeSort_perm _ _).length_eq]; simp
  go_enter Try.func32, Try.ntmps32
  go_wp2_with fail
  refine (m_keys b w).mono ?_
  rintro e w2 ⟨rfl, rfl⟩
  have h2 := h1.alloc (.cells #[.map (some b)] 101)
  go_wp2_with fail
  refine (s_sorted w.heap.size b x.checks hl w0 _ _ (h2.f4.f2)).mono ?_
  rintro e w3 ⟨v, rfl, h3⟩
  have h4 := h3.f2.drop
  obtain ⟨ks, hkse⟩ : ∃ ks, sortI (x.checks.map (·.1)) = ks := ⟨_, rfl⟩
  obtain ⟨f, hf⟩ : ∃ f : Int → Chk, (fun t => (mlook x.checks t).getD ⟨0, 0, 0⟩) = f := ⟨_, rfl⟩
  have hres : x.chks = ks.map f := by unfold Sr.chks; rw [hkse, hf]
  rw [hkse] at h4 hks hlen
  have hlk : ∀ (t : Int) (w : World) (R : HP), kInt.ok t → St w0 w (MAt kInt vChk b x.checks * R) → (Instr.lookup 101 (.map (some b)) (.int .i64 t) false).run Try.prog w = .ok (vChk (f t)) w := fun t w R hk h => by
    have := h.map_look tyChk t hk (zeroChk _) false
    rw [show ((mlook x.checks t).map vChk).getD (vChk ⟨0, 0, 0⟩) = vChk (f t) by rw [← congrFun hf t]; show _ = vChk ((mlook x.checks t).getD ⟨0, 0, 0⟩); cases mlook x.checks t <;> rfl] at this
    exact this
  obtain ⟨n, hn⟩ : ∃ n, ks.length = n := ⟨_, rfl⟩
  have hge : ∀ k : Nat, k < n → ∃ t, ks[k]? = some t ∧ kInt.ok t ∧ ks.take (k + 1) = ks.take k ++ [t] := fun k hk => by
    have e : ks[k]? = some ks[k] := List.getElem?_eq_getElem (by omega)
    exact ⟨ks[k], e, hks _ (List.mem_of_getElem? e), by rw [List.take_add_one, e]; rfl⟩
  have hen : ∀ k : Nat, k = n → ks.take k = ks := fun k hk => List.take_of_length_le (by omega)
  have hnl : n ≤ 1000000 := by omega
  have htl : ∀ k : Nat, k ≤ n → ((ks.take k).map f).length = k := fun k hk => by simp; omega
  obtain ⟨a1, cap1, rfl, _, _⟩ := h4.l_shape
  rw [hn] at h4 ⊢
  have HGE := Lib.hid hge
  have HEN := Lib.hid hen
  have HLK := Lib.hid hlk
  have HRES := Lib.hid hres
  have HTL := Lib.hid htl
  clear h h1 h2 h3 hok hks hlen hkse hf hres hlk hn hge hen htl c
  go_wp2
  go_loopw [3, 15] (fun s3 i wr => ∃ k : Nat, k ≤ n ∧ i = .int .i64 k ∧ St w0 wr (LAt TC 3 Chk.cells s3 ((ks.take k).map f) * (LAt 3 1 intC (.slice a1 n cap1) ks * (MAt kInt vChk b x.checks * (blk s (.cells #[ptr p, .map (some b)] 103 (0, 0)) * (PAt p x.pool * R)))))) (fun _ i _ => n - (intOf i).toNat)
  case atStart => exact ⟨0, by omega, rfl, h4.l_nil _ _ _⟩
  case round =>
    clear h4
    obtain ⟨k, hk, rfl, h5⟩ := hrel
    obtain ⟨a5, cap5, rfl, _, _⟩ := h5.l_shape
    have c := h5.f4.cell
    have hal := HTL.out k hk
    by_cases hlt : k < n
    · obtain ⟨t, ht, htok, hts⟩ := HGE.out k hlt
      rcases h5.f2.l_cells intC_len with ⟨h0, _⟩ | ⟨g1, off1, cp1, hv1, _, _, hc1⟩
      · rw [h0] at ht; simp at ht
      simp only [Value.slice.injEq] at hv1
      obtain ⟨rfl, hq, rfl⟩ := hv1
      clear hq
      have d0 := hc1 _ _ ht 0 _ rfl
      have hl0 := HLK.out t wr _ htok h5.f3
      obtain ⟨⟨ct, ca, cn⟩, hcc⟩ : ∃ c, f t = c := ⟨_, rfl⟩
      rw [hcc] at hl0
      simp only [vChk, Chk.cells] at hl0
      change Sem.run _ _ _ = Result.ok (Value.agg #[.int .i64 ct, .int .i64 ca, .int .i64 cn]) wr at hl0
      try simp only [Nat.mul_one, Nat.add_zero] at d0
      have hA := (h5.alloc (.cells #[.int .i64 ct, .int .i64 ca, .int .i64 cn] 91)).drop
      have HTS := Lib.hid hts
      have HCC := Lib.hid hcc
      clear hts hcc hc1 ht
      go_upto_region 7 with fail
      go_wp2_with (at_builtin; refine wp_append_elem rfl (.tmp 19) (.tmp 26) rfl tyCk hA ⟨ct, ca, cn⟩ rfl _ rfl (new_cells _ [.int .i64 ct, .int .i64 ca, .int .i64 cn] _ _ (by simp)) ?n1b ?n1; (case' n1 => (intro g4 off4 cap4 w9 h9)))
      case n1b => omega
      go_roundw
      case rel =>
        refine ⟨k + 1, by omega, by go_num, ?_⟩
        rw [HTS.out, List.map_append, List.map_cons, List.map_nil, HCC.out]
        simp only [List.length_map, List.length_take] at h9
        exact h9
      case measure => simp [intOf]; omega
    · have he : (ks.take k).map f = ks.map f := by rw [HEN.out k (by omega)]
      have HE := Lib.hid he
      clear he
      go_wp2
      go_ret
      refine ⟨_, rfl, ?_⟩
      rw [HRES.out, ← HE.out]
      exact (h5.f2.drop.b4.b3.s_shut).f2
end Go.Proofs.Ytbnbknabedgpcaa
