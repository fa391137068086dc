/- ClockParts: the walk. -/
import Derived.Test.YtbnbknabedgpcaaWClockStops
import Derived.BigQuiet
namespace Go.Proofs.Ytbnbknabedgpcaa
open Go.RowKit Go.Sort

theorem till_mem {l : Tms} (hn : (l.map (·.1)).Nodup) {p : Key × Int} (hp : p ∈ l) : till l p.1 = p.2 := by
  obtain ⟨i, hi, e⟩ := List.getElem_of_mem hp
  unfold till
  rw [mlook_at (k := p.1) (u := p.2) hn (j := i) (by rw [List.getElem?_eq_getElem hi, e])]
  rfl

theorem mem_due {l : Tms} (hn : (l.map (·.1)).Nodup) {now : Int} {k : Key} : k ∈ dueK l now ↔ ∃ t, (k, t) ∈ l ∧ t ≤ now := by
  unfold dueK
  rw [(sortK_perm _ _).mem_iff]
  simp only [List.mem_map, List.mem_filter, decide_eq_true_eq]
  constructor
  · rintro ⟨⟨k', t⟩, ⟨h1, h2⟩, rfl⟩
    exact ⟨t, h1, h2⟩
  · rintro ⟨t, h1, h2⟩
    exact ⟨(k, t), ⟨h1, h2⟩, rfl⟩
theorem due_nodup {l : Tms} (hn : (l.map (·.1)).Nodup) (now : Int) : (dueK l now).Nodup :=
  ((sortK_perm _ _).nodup_iff).2 ((List.filter_sublist.map _).nodup hn)
theorem leftK_nodup {l : Tms} (hn : (l.map (·.1)).Nodup) (now : Int) : ((leftK l now).map (·.1)).Nodup := (List.filter_sublist.map _).nodup hn

theorem due_parts {l : Tms} (hn : (l.map (·.1)).Nodup) {x y : Int} (hxy : x ≤ y) : dueK l x ++ dueK (leftK l x) y = dueK l y := by
  have hn2 := leftK_nodup hn x
  have hm1 : ∀ k, k ∈ dueK l x ↔ ∃ t, (k, t) ∈ l ∧ t ≤ x := fun k => mem_due hn
  have hm2 : ∀ k, k ∈ dueK (leftK l x) y ↔ ∃ t, (k, t) ∈ l ∧ x < t ∧ t ≤ y := fun k => by
    rw [mem_due hn2]
    unfold leftK
    simp only [List.mem_filter, decide_eq_true_eq]
    constructor
    · rintro ⟨t, ⟨h1, h2⟩, h3⟩; exact ⟨t, h1, h2, h3⟩
    · rintro ⟨t, h1, h2, h3⟩; exact ⟨t, ⟨h1, h2⟩, h3⟩
  have htl : ∀ k t, (k, t) ∈ l → till l k = t := fun k t h => till_mem hn h
  have hnd : (dueK l x ++ dueK (leftK l x) y).Nodup := by
    rw [List.nodup_append]
    refine ⟨due_nodup hn x, due_nodup hn2 y, fun a ha b hb => ?_⟩
    rintro rfl
    obtain ⟨t, h1, h2⟩ := (hm1 a).1 ha
    obtain ⟨t', h3, h4, _⟩ := (hm2 a).1 hb
    have e1 := htl _ _ h1
    have e2 := htl _ _ h3
    omega
  have hp : (dueK l x ++ dueK (leftK l x) y).Perm ((l.filter fun p => decide (p.2 ≤ y)).map (·.1)) := by
    rw [List.perm_ext_iff_of_nodup hnd ((List.filter_sublist.map _).nodup hn)]
    intro k
    rw [List.mem_append, hm1, hm2]
    simp only [List.mem_map, List.mem_filter, decide_eq_true_eq]
    constructor
    · rintro (⟨t, h1, h2⟩ | ⟨t, h1, h2, h3⟩)
      · exact ⟨(k, t), ⟨h1, by omega⟩, rfl⟩
      · exact ⟨(k, t), ⟨h1, h3⟩, rfl⟩
    · rintro ⟨⟨k', t⟩, ⟨h1, h2⟩, rfl⟩
      by_cases h : t ≤ x
      · exact .inl ⟨t, h1, h⟩
      · exact .inr ⟨t, h1, by omega, h2⟩
  have e : dueK l y = sortK l ((l.filter fun p => decide (p.2 ≤ y)).map (·.1)) := rfl
  rw [e]
  refine (sortK_eq hp ?_).symm
  rw [List.pairwise_append]
  refine ⟨sortK_sorted _ _, ?_, ?_⟩
  · refine (sortK_sorted (leftK l x) ((leftK l x).filter (fun p => decide (p.2 ≤ y)) |>.map (·.1))).imp_of_mem fun {a b} ha hb h => ?_
    obtain ⟨t, h1, h2, h3⟩ := (hm2 a).1 ha
    obtain ⟨t', h4, h5, h6⟩ := (hm2 b).1 hb
    have e1 := htl _ _ h1
    have e2 := htl _ _ h4
    have e3 : till (leftK l x) a = t := till_mem hn2 (p := (a, t)) (by unfold leftK; simp; exact ⟨h1, h2⟩)
    have e4 : till (leftK l x) b = t' := till_mem hn2 (p := (b, t')) (by unfold leftK; simp; exact ⟨h4, h5⟩)
    unfold aheadK at *
    rw [e1, e2]
    rw [e3, e4] at h
    exact h
  · intro a ha b hb
    obtain ⟨t, h1, h2⟩ := (hm1 a).1 ha
    obtain ⟨t', h3, h4, _⟩ := (hm2 b).1 hb
    have e1 := htl _ _ h1
    have e2 := htl _ _ h3
    unfold aheadK
    omega

theorem due_len {l : Tms} (now : Int) : (dueK l now).length ≤ l.length := by
  unfold dueK
  rw [(sortK_perm _ _).length_eq, List.length_map]
  exact List.length_filter_le _ _
theorem leftK_len {l : Tms} (now : Int) : (leftK l now).length ≤ l.length := List.length_filter_le _ _

set_option maxRecDepth 100000 in
set_option maxHeartbeats 1600000 in
theorem ClockParts.walk (a0 : Option Addr) (len0 cap0 : Nat) (a1 : Int) (a2 : Int) (w : World) (w0 : (Sh.slice CkSh).ok w [.slice a0 len0 cap0]) (_w1 : (Lit.int .i64 a1).wf = true) (_w2 : (Lit.int .i64 a2).wf = true) :
    Calls Try.prog 5 #[.slice a0 len0 cap0, .int .i64 a1, .int .i64 a2] w fun e w' => e = .returned (.bool true) ∧ Below w.heap.size w w' := by
  obtain ⟨l1, l2, l3⟩ := ck_script w0
  unfold maxLen at l2
  have hGd := key_guard
  clear w0
  go_enter Try.func5, Try.ntmps5
  go_wp2_with fail
  refine (c_new _ _ _ (St.start w)).mono ?_
  rintro e w2 ⟨ca, rfl, h2⟩
  go_wp2_with fail
  refine (c_new _ _ _ h2).mono ?_
  rintro e wz ⟨cb, rfl, h3⟩
  have h5 := h3.f2
  clear h2 h3
  go_upto_region 2 with fail
  go_cut [21, 22, 23] (fun s33 s34 s35 wx => ∃ m : Nat, m ≤ len0 ∧ m ≤ 100 ∧ s33 = .slice a0 m cap0 ∧ s34 = .int .i64 m ∧ s35 = .int .i64 0 ∧ wz = wx)
  case first =>
    go_wp2
    all_goals (go_meet; first | exact ⟨len0, Nat.le_refl _, by omega, rfl, rfl, rfl, rfl⟩ | exact ⟨100, by omega, by omega, rfl, rfl, rfl, rfl⟩ | (refine ⟨(min (len0 : Int) 100).toNat, by omega, by omega, ?_, ?_, rfl, rfl⟩ <;> (first | rfl | (congr 1; omega) | trace_state)))
  case rest =>
    obtain ⟨m, hm, hm100, rfl, rfl, rfl, rfl⟩ := hcut
    go_wp2
    go_loopw [23] (fun i wr => ∃ (k : Nat) (l : Tms), k ≤ m ∧ i = .int .i64 k ∧ l.length ≤ k ∧ St w wr (CAt ca l * (CAt cb l * Old w))) (fun i _ => m - (intOf i).toNat)
    case atStart => exact ⟨0, [], by omega, rfl, by simp, h5⟩
    case round =>
      clear h5
      obtain ⟨k, l, hk, rfl, hlen, h6⟩ := hrel
      by_cases hlt : k < m
      · obtain ⟨b, off, rfl, hb, hi⟩ := l3 (by omega)
        obtain ⟨x, xok, c0, c1, c2, c3, c4⟩ := hi k (by omega)
        obtain ⟨xd, xo, xt, xn, xp⟩ := x
        simp only [] at c0 c1 c2 c3 c4
        have hbel := (h6.drop.drop).old0
        have d0 := (hbel.cell (p := ⟨b, off + k * 5, none⟩) hb).trans c0
        have d1 := (hbel.cell (p := ⟨b, off + k * 5 + 1, none⟩) hb).trans c1
        have d2 := (hbel.cell (p := ⟨b, off + k * 5 + 2, none⟩) hb).trans c2
        have d3 := (hbel.cell (p := ⟨b, off + k * 5 + 3, none⟩) hb).trans c3
        have d4 := (hbel.cell (p := ⟨b, off + k * 5 + 4, none⟩) hb).trans c4
        clear hi l3 c0 c1 c2 c3 c4 hbel
        have hk2 := xok.1
        simp only [] at hk2
        have h7 := (h6.alloc (.cells #[.int .i64 xd, .int .i64 xo, .int .i64 xt, .int .i64 xn, .int .i64 xp] 41)).alloc (.cells #[.int .i64 xo, .int .i64 xt] 43)
        simp only [World.size_alloc] at h7
        have hl' := cstart_length l (xo, xt) xn xp
        go_wp2_with fail
        refine (c_start ca l (xo, xt) hk2 xn xp _ _ _ h7.f3).mono ?_
        rintro e w5 ⟨rfl, h8⟩
        have k8 := h8.f2.cell
        have a8 := h8.f3.cell
        clear h7 h6 d0 d1 d2 d3 d4
        go_wp2_with fail
        refine (c_start cb l (xo, xt) hk2 xn xp _ _ _ h8.f4).mono ?_
        rintro e w6 ⟨rfl, h9⟩
        clear k8 a8
        go_wp2
        go_roundw
        case rel => exact ⟨k + 1, (cstart l (xo, xt) xn xp).1, by omega, by go_num, by omega, h9.f3.drop.f3.drop.f2⟩
        case measure => simp [intOf]; omega
      · obtain rfl : k = m := by omega
        obtain ⟨bm, h7⟩ := h6.c_open
        have hnd := h7.f2.map_nodup
        have hmin : min a1 a2 ≤ max a1 a2 := by omega
        have hpt := due_parts hnd hmin
        have hd1 := due_len (l := l) (min a1 a2)
        have hd2 := due_len (l := leftK l (min a1 a2)) (max a1 a2)
        have hd3 := leftK_len (l := l) (min a1 a2)
        have hd4 := due_len (l := l) (max a1 a2)
        have hb16 : ((dueK l (min a1 a2)).length + (dueK (leftK l (min a1 a2)) (max a1 a2)).length) * 16 ≤ 140737488355328 := by omega
        have HPT := Lib.hid hpt
        clear h7 hpt hmin hnd
        go_wp2_with fail
        refine (c_due ca _ (min a1 a2) _ _ _ h6 (by omega)).mono ?_
        rintro e w5 ⟨v1, rfl, h7⟩
        go_wp2_with fail
        refine (c_due ca _ (max a1 a2) _ _ _ h7.f2 (by omega)).mono ?_
        rintro e w6 ⟨v2, rfl, h8⟩
        have h8' := h8.f3
        go_wp2_with (at_builtin; refine wpList_append_any rfl (.tmp 51) (.tmp 56) rfl tyKey h8' rfl rfl hb16 ?_; intro v3 w7 h9)
        rw [HPT.out] at h9
        refine (c_due cb _ (max a1 a2) _ _ _ h9.f3 (by omega)).mono ?_
        rintro e w8 ⟨v4, rfl, h10⟩
        have h11 := h10.f2.drop.f3.drop
        obtain ⟨ks, hks⟩ : ∃ ks, dueK l (max a1 a2) = ks := ⟨_, rfl⟩
        rw [hks] at h11 hd4
        clear h6 h7 h8 h8' h9 h10 hd1 hd2 hd3 hb16 hks
        go_wp2_with fail
        refine (ck_wakes _ _ _ h11).mono ?_
        rintro e w9 ⟨rfl, h12⟩
        obtain ⟨av1, cap1, rfl, _, _⟩ := h12.l_shape
        obtain ⟨av2, cap2, rfl, _, _⟩ := h12.f2.l_shape
        clear h11
        obtain ⟨n, hn⟩ : ∃ n, ks.length = n := ⟨_, rfl⟩
        rw [hn] at hd4 ⊢
        have hn100 : n ≤ 100000 := by omega
        go_wp2
        go_loopw [74] (fun i wr => ∃ j : Nat, j ≤ n ∧ i = .int .i64 j ∧ St w wr (LAt 43 2 keyC (.slice av1 n cap1) ks * (LAt 43 2 keyC (.slice av2 n cap2) ks * Old w))) (fun i _ => n - (intOf i).toNat)
        case atStart => exact ⟨0, by omega, rfl, by rw [← hn]; exact h12⟩
        case round =>
          clear h12
          obtain ⟨j, hj, rfl, h13⟩ := hrel
          by_cases hlt2 : j < n
          · obtain ⟨⟨y1, y2⟩, hy⟩ : ∃ y, ks[j]? = some y := ⟨_, List.getElem?_eq_getElem (by omega)⟩
            rcases h13.l_cells tyKey.len with ⟨h0, _⟩ | ⟨g1, off1, cp1, hv1, _, _, hc1⟩
            · rw [h0] at hn; simp at hn; omega
            rcases h13.f2.l_cells tyKey.len with ⟨h0, _⟩ | ⟨g2, off2, cp2, hv2, _, _, hc2⟩
            · rw [h0] at hn; simp at hn; omega
            simp only [Value.slice.injEq] at hv1 hv2
            obtain ⟨rfl, _, rfl⟩ := hv1
            obtain ⟨rfl, _, rfl⟩ := hv2
            have d0 : wr.cell? ⟨g1, off1 + j * 2, none⟩ = some (.int .i64 y1) := hc1 j _ hy 0 _ rfl
            have d1 : wr.cell? ⟨g1, off1 + j * 2 + 1, none⟩ = some (.int .i64 y2) := hc1 j _ hy 1 _ rfl
            have e0 : wr.cell? ⟨g2, off2 + j * 2, none⟩ = some (.int .i64 y1) := hc2 j _ hy 0 _ rfl
            have e1 : wr.cell? ⟨g2, off2 + j * 2 + 1, none⟩ = some (.int .i64 y2) := hc2 j _ hy 1 _ rfl
            have hji : (j : Int) < (n : Int) := by omega
            have H13 := Lib.hid h13
            have q1 : ∀ w, (Op.equalIn 10000 43 (.agg #[.int .i64 y1, .int .i64 y2]) (.agg #[.int .i64 y1, .int .i64 y2])).run Try.prog w = .ok true w := fun w => by rw [key_eq]; simp
            clear h13 hc1 hc2 hy hn hk hlt hm hm100 hlen l1 l2 l3
            go_upto_region 16 with fail
            go_quiet (fail)
            go_wp2
            go_roundw
            case rel => exact ⟨j + 1, by omega, by go_num, H13.out.drewN _⟩
            case measure => simp [intOf]; omega
          · go_wp2
            go_ret
            exact ⟨rfl, h13.drop.drop.old0⟩
end Go.Proofs.Ytbnbknabedgpcaa
