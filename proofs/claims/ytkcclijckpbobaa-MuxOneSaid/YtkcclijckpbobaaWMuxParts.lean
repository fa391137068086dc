/- MuxParts: the walk. -/
import Derived.Test.YtkcclijckpbobaaMuxRun
namespace Go.Proofs.Ytkcclijckpbobaa
open Go.RowKit Go.Sort

def kZ : KD Int := ⟨fun n => .int .i64 n, fun n => (Lit.int .i64 n).wf = true, fun a b h => by simpa using h⟩
abbrev vB (b : Bool) : Value := .bool b
theorem tyIds : MTy Try.prog 45 3 4 kZ :=
  ⟨Try.underlying45, Maps.int_keyed Try.underlying3, fun _ h => ⟨_, Maps.keyOf_int_mk Try.underlying3 h⟩⟩
theorem tyMet : MTy Try.prog 50 38 4 kLk :=
  ⟨Try.underlying50, Maps.Keyed.of_law lkLaw, lkReads⟩
theorem zeroB (w : World) : (zeroValue 4).run Try.prog w = .ok (.bool false) w := by kernel_rfl

theorem sub_lenL {α : Type} [DecidableEq α] : ∀ {l m : List α}, l.Nodup → (∀ a ∈ l, a ∈ m) → l.length ≤ m.length
  | [], _, _, _ => Nat.zero_le _
  | a :: l, m, hn, h => by
    have ha := h a (by simp)
    simp only [List.nodup_cons] at hn
    have h2 := sub_lenL (m := m.erase a) hn.2 (fun b hb => (List.mem_erase_of_ne (by rintro rfl; exact hn.1 hb)).2 (h b (by simp [hb])))
    have h3 := List.length_erase_of_mem ha
    have h4 := List.length_pos_of_mem ha
    simp only [List.length_cons]
    omega
abbrev Met := List (Lk × Bool)
/-- what was met: links of those who aren't left -/
def MetInv (l : List En) (left : List Int) (M : Met) : Prop := ∀ k ∈ M.map (·.1), ∃ i, (k, i) ∈ l ∧ i ∉ left
def MetIn (l : List En) (left : List Int) (id : Int) (seen : List Lk) (M : Met) : Prop := ∀ k ∈ M.map (·.1), ∃ i, (k, i) ∈ l ∧ ((i ∉ left ∧ i ≠ id) ∨ (i = id ∧ k ∈ seen))
theorem MetInv.begin {l : List En} {left : List Int} {M : Met} {id : Int} (h : MetInv l left M) (hid : id ∈ left) : MetIn l (left.filter fun z => decide (z ≠ id)) id [] M := fun k hk => by
  obtain ⟨i, h1, h2⟩ := h k hk
  exact ⟨i, h1, .inl ⟨fun hm => h2 (List.mem_filter.1 hm).1, fun e => h2 (e ▸ hid)⟩⟩
theorem MetIn.finish {l : List En} {left : List Int} {M : Met} {id : Int} {ks : List Lk} (h : MetIn l (left.filter fun z => decide (z ≠ id)) id ks M) : MetInv l (left.filter fun z => decide (z ≠ id)) M := fun k hk => by
  obtain ⟨i, h1, h2 | ⟨h2, _⟩⟩ := h k hk
  · exact ⟨i, h1, h2.1⟩
  · refine ⟨i, h1, fun hm => ?_⟩
    have := (List.mem_filter.1 hm).2
    simp [h2] at this
theorem MetIn.fresh {l : List En} {left : List Int} {M : Met} {id : Int} {ks : List Lk} {j : Nat} {k : Lk} (h : MetIn l left id (ks.take j) M) (hn : (l.map (·.1)).Nodup) (hs : ks.Pairwise aheadL) (hk : ks[j]? = some k) (hm : (k, id) ∈ l) : mlook M k = none := by
  refine mlook_none fun p hp e => ?_
  obtain ⟨i, h1, h2⟩ := h k (List.mem_map.2 ⟨p, hp, e⟩)
  have hi : i = id := by
    have a := mem_look hn h1
    rw [mem_look hn hm] at a
    exact (Option.some.inj a).symm
  rcases h2 with h2 | ⟨_, h2⟩
  · exact h2.2 hi
  · obtain ⟨j', hj', e'⟩ := List.getElem_of_mem h2
    simp only [List.length_take] at hj'
    rw [List.getElem_take] at e'
    have hj := (List.getElem?_eq_some_iff.1 hk).1
    have := (List.pairwise_iff_getElem.1 hs) j' j (by omega) hj (by omega)
    rw [e', (List.getElem?_eq_some_iff.1 hk).2] at this
    exact aheadL_irr _ this
theorem MetIn.more {l : List En} {left : List Int} {M : Met} {id : Int} {ks : List Lk} {j : Nat} {k : Lk} (h : MetIn l left id (ks.take j) M) (hk : ks[j]? = some k) (hm : (k, id) ∈ l) (hf : mlook M k = none) : MetIn l left id (ks.take (j + 1)) (mput M k true) := by
  have ht : ks.take (j + 1) = ks.take j ++ [k] := by rw [List.take_add_one, hk]; rfl
  rw [mput_newL (by rw [hf]; rfl), ht]
  intro k' hk'
  rw [List.map_append, List.mem_append] at hk'
  rcases hk' with hk' | hk'
  · obtain ⟨i, h1, h2 | ⟨h2, h3⟩⟩ := h k' hk'
    · exact ⟨i, h1, .inl h2⟩
    · exact ⟨i, h1, .inr ⟨h2, by simp [h3]⟩⟩
  · simp at hk'
    subst hk'
    exact ⟨id, hm, .inr ⟨rfl, by simp⟩⟩
theorem MetInv.len {l : List En} {M : Met} (h : MetInv l [] M) (hn : (M.map (·.1)).Nodup) : M.length ≤ l.length := by
  have := sub_lenL (m := l.map (·.1)) hn fun k hk => by
    obtain ⟨i, h1, _⟩ := h k hk
    exact List.mem_map.2 ⟨_, h1, rfl⟩
  simpa using this
theorem route_one {x : Mx} {k : Lk} {id : Int} (hn : (x.l.map (·.1)).Nodup) (h : (k, id) ∈ x.l) (h2 : k.2 ≠ 127) : x.route k = [id] := by
  unfold Mx.route
  rw [if_pos h2, mem_look hn h]

set_option maxRecDepth 100000 in
set_option maxHeartbeats 3200000 in
theorem MuxParts.walk (a0 : Int) (a1 : Option Addr) (len1 cap1 : Nat) (w : World) (w0 : (Lit.int .i64 a0).wf = true) (w1 : (Sh.slice MASh).ok w [.slice a1 len1 cap1]) :
    Calls Try.prog 6 #[.int .i64 a0, .slice a1 len1 cap1] w fun e w' => e = .returned (.bool true) ∧ Below w.heap.size w w' := by
  have hrun := mx_run a0 a1 len1 cap1 w w (Old w) w1 (fun A wr h => h.drop.old0) (St.start w)
  obtain ⟨l1, l2, l3⟩ := ma_script w1
  unfold maxLen at l2
  clear w0 w1
  have hmm := @run_makeMap Try.prog
  go_enter Try.func6, Try.ntmps6
  go_wp2_with fail
  refine hrun.mono ?_
  rintro e w2 ⟨m, r, x, L, rfl, ok, hR, hmo, _, h2⟩
  obtain ⟨mo, hmo2⟩ : ∃ mo, mostOf a0 = mo := ⟨_, rfl⟩
  rw [hmo2] at h2 hmo
  have h3 := h2.map_new kZ vB
  have HOK := Lib.hid ok
  have HMO := Lib.hid hmo
  have HMO2 := Lib.hid hmo2
  clear hrun h2 ok hR hmo hmo2
  go_upto_region 3 with fail
  obtain ⟨wz, hwz⟩ : ∃ wz, w2.alloc (.map #[] 0) = wz := ⟨_, rfl⟩
  rw [hwz] at h3 ⊢
  clear hwz
  generalize w2.heap.size = ib at *
  go_cut [28, 29, 30] (fun s33 s34 s35 wx => ∃ n : Nat, n ≤ len1 ∧ n ≤ 150 ∧ s33 = .slice a1 n cap1 ∧ s34 = .int .i64 n ∧ s35 = .int .i64 0 ∧ wz = wx)
  case first =>
    go_wp2
    all_goals (go_meet; first | exact ⟨len1, Nat.le_refl _, by omega, rfl, rfl, rfl, rfl⟩ | exact ⟨150, by omega, by omega, rfl, rfl, rfl, rfl⟩ | (refine ⟨(min (len1 : Int) 150).toNat, by omega, by omega, ?_, ?_, rfl, rfl⟩ <;> (first | rfl | (congr 1; omega) | trace_state)))
  case rest =>
    obtain ⟨n, hn, hn150, rfl, rfl, rfl, rfl⟩ := hcut
    go_wp2
    go_loopw [30] (fun i wr => ∃ (k : Nat) (ids : List (Int × Bool)), k ≤ n ∧ i = .int .i64 k ∧ St w wr (MAt kZ vB ib ids * (XAt m x * (MRef r mo L * Old w)))) (fun i _ => n - (intOf i).toNat)
    case atStart => exact ⟨0, [], by omega, rfl, h3⟩
    case round =>
      clear h3
      obtain ⟨k, ids, hk, rfl, h6⟩ := hrel
      by_cases hlt : k < n
      · obtain ⟨b, off, rfl, hb, hi⟩ := l3 (by omega)
        obtain ⟨y, yok, c0, c1, c2, c3⟩ := hi k (by omega)
        obtain ⟨xd, xs, xt, xi⟩ := y
        simp only [] at c0 c1 c2 c3
        have hbel := h6.drop.drop.drop.old0
        have d0 := (hbel.cell (p := ⟨b, off + k * 4, none⟩) hb).trans c0
        have d1 := (hbel.cell (p := ⟨b, off + k * 4 + 1, none⟩) hb).trans c1
        have d2 := (hbel.cell (p := ⟨b, off + k * 4 + 2, none⟩) hb).trans c2
        have d3 := (hbel.cell (p := ⟨b, off + k * 4 + 3, none⟩) hb).trans c3
        have hki : kZ.ok xi := yok.2.2.1
        have h7 := h6.alloc (.cells #[.int .i64 xd, .int .i64 xs, .int .i64 xt, .int .i64 xi] 29)
        clear hi l3 c0 c1 c2 c3 hbel yok h6
        go_upto_region 6 with fail
        generalize wr.alloc _ = w6 at *
        generalize wr.heap.size = ga at *
        have c6 := h7.cell
        clear d0 d1 d2 d3
        go_wp2_with (at_mapUpdate; refine wp_mput rfl (.tmp 34) (.tmp 36) (.const (Value.bool true)) 45 rfl tyIds h7.f2 rfl xi rfl hki true rfl ?_; intro w7 h8)
        go_roundw
        case rel => exact ⟨k + 1, _, by omega, by go_num, h8.f2.drop⟩
        case measure => simp [intOf]; omega
      · have h7 := (h6.map_new kLk vB).f2
        have hnx := HOK.out.nd
        go_upto_region 9 with fail
        generalize wr.alloc _ = w7 at *
        generalize wr.heap.size = mb at *
        go_wp2_with (at_range; refine wp_mrange rfl (.tmp 39) 45 rfl tyIds.ht h7 rfl ?_; intro w8 rr h8)
        go_frame
        go_loopw [] (fun wr => ∃ (left : List Int) (M : Met), Hid (MetInv x.l left M) ∧ St w wr (RAt kZ vB ib rr ids left * (MAt kLk vB mb M * (XAt m x * (MRef r mo L * Old w))))) (fun wr => wr.rangeLeft ib rr)
        case atStart => exact ⟨_, [], Lib.hid (by intro k hk; cases hk), h8⟩
        case round =>
          clear h6 h7 h8
          obtain ⟨left, M, HI, h9⟩ := hrel
          have meas : ∀ (y : Int) (w5 : World) (R' : HP), y ∈ left → St w w5 (RAt kZ vB ib rr ids (left.filter (fun z => decide (z ≠ y))) * R') → w5.rangeLeft ib rr < wr.rangeLeft ib rr := by
            intro y w5 R' hx h5
            rw [h9.rmap_left, h5.rmap_left]
            exact List.length_filter_lt_length_iff_exists.2 ⟨y, hx, by simp⟩
          have MS := Lib.hid meas
          clear meas
          go_wp2_with (at_next; refine wp_mnext rfl (.tmp 40) rfl h9 rfl ?done ?more; (case' done => (intro hl0; subst hl0; have H9 := Lib.hid h9.rmap_end; clear h9)); (case' more => (intro y b w10 hy hv h10 hen0; have hen : (Instr.entry (.pointer (some ⟨rr, 0, none⟩))).run Try.prog w10 = .ok (.tuple #[.int .i64 y, .bool b]) w10 := hen0; have HY := Lib.hid hy; have H10 := Lib.hid h10; clear h10 h9 hy hv hen0)))
          · have HB := Lib.hid (HI.out.begin HY.out)
            have HMS := Lib.hid (fun w5 R' => MS.out y w5 R' HY.out)
            have hs := Ok.short HOK.out
            refine (x_links m x y _ _ _ H10.out.f3 (by omega)).mono ?_
            rintro e w11 ⟨v, rfl, h11⟩
            obtain ⟨ks, hks⟩ : ∃ ks, linksOf x.l y = ks := ⟨_, rfl⟩
            have hst : ks.Pairwise aheadL := by rw [← hks]; exact linksOf_strict hnx y
            have hmem : ∀ k ∈ ks, (k, y) ∈ x.l := fun k hk => linksOf_mem.1 (by rw [hks]; exact hk)
            have hkl : ks.length ≤ 128 := by
              rw [← hks, linksOf_len]
              exact Nat.le_trans (List.length_filter_le _ _) hs
            rw [hks] at h11
            obtain ⟨a, cap, rfl, _, _⟩ := h11.l_shape
            obtain ⟨q, hq⟩ : ∃ q, ks.length = q := ⟨_, rfl⟩
            rw [hq] at h11 hkl ⊢
            have HQ := Lib.hid hq
            have HST := Lib.hid hst
            have HMEM := Lib.hid hmem
            generalize hlf : (left.filter fun z => decide (z ≠ y)) = left' at *
            have HLF := Lib.hid hlf
            clear hen hks hst hmem hq H10 HY MS HI hlf
            go_wp2
            go_loopw [49] (fun i wr => ∃ (j : Nat) (M : Met), j ≤ q ∧ i = .int .i64 j ∧ Hid (MetIn x.l left' y (ks.take j) M) ∧ St w wr (LAt 38 2 lkC (.slice a q cap) ks * (XAt m x * (RAt kZ vB ib rr ids left' * (MAt kLk vB mb M * (MRef r mo L * Old w)))))) (fun i _ => q - (intOf i).toNat)
            case atStart => exact ⟨0, M, by omega, rfl, HB, h11⟩
            case round =>
              clear h11 HB
              obtain ⟨j, M, hj, rfl, HI, h13⟩ := hrel
              by_cases hlj : j < q
              · obtain ⟨⟨y1, y2⟩, hy⟩ : ∃ k, ks[j]? = some k := ⟨_, List.getElem?_eq_getElem (by rw [HQ.out]; exact hlj)⟩
                have hm := HMEM.out _ (List.mem_of_getElem? hy)
                have hrg := HOK.out.rng _ hm
                simp only [] at hrg
                obtain ⟨bb, hxo⟩ := h13.f2.x_open
                have hokk : okL (y1, y2) := hxo.f2.map.1 _ hm
                have hfr := HI.out.fresh hnx HST.out hy hm
                have HN := Lib.hid (HI.out.more hy hm hfr)
                have hro := route_one hnx hm (by simp only []; omega)
                rcases h13.l_cells tyLk.len with ⟨h0, _⟩ | ⟨g, off, cp, hv, _, _, hcell⟩
                · rw [h0] at hy; simp at hy
                simp only [Value.slice.injEq] at hv
                obtain ⟨rfl, hqq, rfl⟩ := hv
                clear hqq
                have d0 : wr.cell? ⟨g, off + j * 2, none⟩ = some (.int .i64 y1) := hcell j _ hy 0 _ rfl
                have d1 : wr.cell? ⟨g, off + j * 2 + 1, none⟩ = some (.int .i64 y2) := hcell j _ hy 1 _ rfl
                have h14 := h13.alloc (.cells #[.int .i64 y1, .int .i64 y2] 38)
                have HRO := Lib.hid hro
                have HFR := Lib.hid hfr
                clear hcell hy hm hrg hxo h13 hro hfr
                go_upto_region 15 with fail
                generalize wr.alloc _ = w14 at *
                generalize wr.heap.size = gl at *
                clear d0 d1
                have c := h14.cell
                go_wp2_with fail
                refine (x_route m x (y1, y2) hokk _ _ _ h14.f3 (by omega)).mono ?_
                rintro e w15 ⟨v2, rfl, h15⟩
                rw [HRO.out] at h15
                rcases h15.l_cells tyZ.len with ⟨h0, _⟩ | ⟨g2, off2, cp2, rfl, _, _, hcell⟩
                · cases h0
                have d0 : w15.cell? ⟨g2, off2, none⟩ = some (.int .i64 y) := hcell 0 y rfl 0 _ rfl
                have hl : (Instr.lookup 50 (.map (some mb)) (.agg #[.int .i64 y1, .int .i64 y2]) false).run Try.prog w15 = .ok (.bool false) w15 := by
                  have := h15.drop.f5.map_look tyMet (y1, y2) hokk (zeroB _) false
                  rw [HFR.out] at this
                  exact this
                clear c h14 hcell
                have c := h15.f3.cell
                go_upto_region 18 with fail
                go_wp2_with (at_mapUpdate; refine wp_mput rfl (.tmp 71) (.tmp 72) (.const (Value.bool true)) 50 rfl tyMet h15.drop.f5 rfl (y1, y2) rfl hokk true rfl ?_; intro w17 h17)
                go_roundw
                case rel => exact ⟨j + 1, _, by omega, by go_num, HN, h17.f3.drop.eq (by ac_rfl)⟩
                case measure => simp [intOf]; omega
              · have ht : ks.take j = ks := List.take_of_length_le (by rw [HQ.out]; omega)
                have hfin := HI.out
                rw [ht, ← HLF.out] at hfin
                have HF := Lib.hid hfin.finish
                clear ht hfin
                go_wp2
                go_roundw
                case rel => exact ⟨left', M, by rw [← HLF.out]; exact HF, h13.drop.eq (by ac_rfl)⟩
                case measure => exact HMS.out _ _ h13.f3
          · refine (mx_wakes _ _ _ H9.out).mono ?_
            rintro e w10 ⟨rfl, h10⟩
            have hln := fun ty => h10.f2.map_len tyMet.ht ty
            have hM := HI.out.len h10.f2.map_nodup
            have ho := HOK.out.len
            rw [HMO.out, ← HMO2.out] at ho
            obtain ⟨ml, hml⟩ : ∃ ml : Int, (M.length : Int) = ml := ⟨_, rfl⟩
            rw [hml] at hln
            have hfin : ml ≤ mostOf a0 := by omega
            unfold mostOf at hfin
            clear hM ho hml
            go_wp2
            all_goals go_ret
            all_goals refine ⟨?_, h10.drop.drop.drop.drop.old0⟩
            all_goals first | (simp; done) | (simp; omega)
end Go.Proofs.Ytkcclijckpbobaa
