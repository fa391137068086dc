/- ClockStops: the walk. -/
import Derived.Test.YtbnbknabedgpcaaWClockWakes
import Derived.BigQuiet
namespace Go.Proofs.Ytbnbknabedgpcaa
open Go.RowKit Go.Sort

theorem mput_length (l : Tms) (k : Key) (v : Int) : (mput l k v).length ≤ l.length + 1 := by
  induction l with
  | nil => simp [mput]
  | cons p l ih =>
    unfold mput
    split
    · simp
    · simp only [List.length_cons]; omega
theorem cstart_length (l : Tms) (k : Key) (n p : Int) : (cstart l k n p).1.length ≤ l.length + 1 := by
  unfold cstart
  split
  · simp
  · exact mput_length _ _ _
def but (l : Tms) (g : Key) : Tms := l.filter fun p => decide (p.1 ≠ g)
theorem mput_cons (p : Key × Int) (l : Tms) (k : Key) (v : Int) : mput (p :: l) k v = if p.1 = k then (k, v) :: l else p :: mput l k v := by rw [mput.eq_def]
theorem mput_but {l : Tms} {g y : Key} (h : y ≠ g) (t : Int) : but (mput l y t) g = mput (but l g) y t := by
  unfold but
  induction l with
  | nil => simp [mput, h]
  | cons p l ih =>
    rw [mput_cons]
    by_cases hp : p.1 = y
    · rw [if_pos hp, List.filter_cons_of_pos (by simp [h]), List.filter_cons_of_pos (by simp [hp, h]), mput_cons, if_pos hp]
    · rw [if_neg hp]
      by_cases hg : p.1 = g
      · rw [List.filter_cons_of_neg (by simp [hg]), List.filter_cons_of_neg (by simp [hg]), ih]
      · rw [List.filter_cons_of_pos (by simp [hg]), List.filter_cons_of_pos (by simp [hg]), ih, mput_cons, if_neg hp]
theorem mput_but_same {l : Tms} {g : Key} (t : Int) : but (mput l g t) g = but l g := by
  unfold but
  induction l with
  | nil => simp [mput]
  | cons p l ih =>
    rw [mput_cons]
    by_cases hp : p.1 = g
    · rw [if_pos hp, List.filter_cons_of_neg (by simp), List.filter_cons_of_neg (by simp [hp])]
    · rw [if_neg hp, List.filter_cons_of_pos (by simp [hp]), List.filter_cons_of_pos (by simp [hp]), ih]
theorem cstart_but {l : Tms} {g y : Key} (h : y ≠ g) (n p : Int) : (cstart (but l g) y n p).1 = but (cstart l y n p).1 g := by
  unfold cstart
  split
  · rfl
  · exact (mput_but h _).symm
theorem cstart_but_same {l : Tms} {g : Key} (n p : Int) : but (cstart l g n p).1 g = but l g := by
  unfold cstart
  split
  · rfl
  · exact mput_but_same _

set_option maxRecDepth 100000 in
set_option maxHeartbeats 1600000 in
theorem ClockStops.walk (a0 : Option Addr) (len0 cap0 : Nat) (a1 : Array Value) (w : World) (w0 : (Sh.slice CkSh).ok w [.slice a0 len0 cap0]) (w1 : Sh.ok w CkSh a1.toList) :
    Calls Try.prog 6 #[.slice a0 len0 cap0, .agg a1] w fun e w' => e = .returned (.bool true) ∧ Below w.heap.size w w' := by
  obtain ⟨l1, l2, l3⟩ := ck_script w0
  unfold maxLen at l2
  obtain ⟨y, hy, yok⟩ := ck_one w1
  obtain rfl : a1 = y.cells := by cases a1; simp only at hy; rw [hy]
  obtain ⟨yd, yo, yt, yn, yp⟩ := y
  have hgo := yok.1
  simp only [] at hgo
  have h0 := (St.start w).alloc (.cells #[.int .i64 yd, .int .i64 yo, .int .i64 yt, .int .i64 yn, .int .i64 yp] 41)
  have hEq := key_eq
  have hGd := key_guard
  clear w0 w1 hy yok
  go_enter Try.func6, Try.ntmps6
  go_wp2_with fail
  refine (c_new _ _ _ h0).mono ?_
  rintro e w2 ⟨ca, rfl, h2⟩
  go_wp2_with fail
  refine (c_new _ _ _ h2).mono ?_
  rintro e w3 ⟨cb, rfl, h3⟩
  have c3 := h3.f3.cell
  have h4 := (h3.alloc (.cells #[.int .i64 yo, .int .i64 yt] 43))
  go_upto_region 3 with fail
  have h5 := h4.f4.drop.m2
  clear c3 h2 h3 h4 h0
  generalize w3.alloc _ = wz at *
  generalize w3.heap.size = gb at *
  go_upto_region 3 with fail
  go_cut [27, 28, 29] (fun s33 s34 s35 wx => ∃ m : Nat, m ≤ len0 ∧ m ≤ 100 ∧ s33 = .slice a0 m cap0 ∧ s34 = .int .i64 m ∧ s35 = .int .i64 0 ∧ wz = wx)
  case first =>
    go_wp2
    all_goals (go_meet; first | exact ⟨len0, Nat.le_refl _, by omega, rfl, rfl, rfl, rfl⟩ | exact ⟨100, by omega, by omega, rfl, rfl, rfl, rfl⟩ | (refine ⟨(min (len0 : Int) 100).toNat, by omega, by omega, ?_, ?_, rfl, rfl⟩ <;> (first | rfl | (congr 1; omega) | trace_state)))
  case rest =>
    obtain ⟨m, hm, hm100, rfl, rfl, rfl, rfl⟩ := hcut
    go_wp2
    go_loopw [29] (fun i wr => ∃ (k : Nat) (l : Tms), k ≤ m ∧ i = .int .i64 k ∧ l.length ≤ k ∧ St w wr (blk gb (.cells #[.int .i64 yo, .int .i64 yt] 43 (0, 0)) * (CAt ca l * (CAt cb (but l (yo, yt)) * Old w)))) (fun i _ => m - (intOf i).toNat)
    case atStart => exact ⟨0, [], by omega, rfl, by simp, h5⟩
    case round =>
      clear h5
      obtain ⟨k, l, hk, rfl, hlen, h6⟩ := hrel
      by_cases hlt : k < m
      · obtain ⟨b, off, rfl, hb, hi⟩ := l3 (by omega)
        obtain ⟨x, xok, c0, c1, c2, c3, c4⟩ := hi k (by omega)
        obtain ⟨xd, xo, xt, xn, xp⟩ := x
        simp only [] at c0 c1 c2 c3 c4
        have hbel := (h6.drop.drop.drop).old0
        have d0 := (hbel.cell (p := ⟨b, off + k * 5, none⟩) hb).trans c0
        have d1 := (hbel.cell (p := ⟨b, off + k * 5 + 1, none⟩) hb).trans c1
        have d2 := (hbel.cell (p := ⟨b, off + k * 5 + 2, none⟩) hb).trans c2
        have d3 := (hbel.cell (p := ⟨b, off + k * 5 + 3, none⟩) hb).trans c3
        have d4 := (hbel.cell (p := ⟨b, off + k * 5 + 4, none⟩) hb).trans c4
        clear hi l3 c0 c1 c2 c3 c4 hbel
        have hk2 := xok.1
        simp only [] at hk2
        have h7 := (h6.alloc (.cells #[.int .i64 xd, .int .i64 xo, .int .i64 xt, .int .i64 xn, .int .i64 xp] 41)).alloc (.cells #[.int .i64 xo, .int .i64 xt] 43)
        have gc := h6.cell
        have glt := h6.lt
        simp only [World.size_alloc] at h7
        have hl' := cstart_length l (xo, xt) xn xp
        by_cases hkk : (xo, xt) = (yo, yt)
        · have e := cstart_but_same (l := l) (g := (yo, yt)) xn xp
          obtain ⟨rfl, rfl⟩ : xo = yo ∧ xt = yt := by simpa using hkk
          have E := Lib.hid e
          clear e hkk
          go_wp2_with fail
          refine (c_start ca l (xo, xt) hgo xn xp _ _ _ h7.f4).mono ?_
          rintro e w5 ⟨rfl, h8⟩
          have k8 := h8.f2.cell
          have a8 := h8.f3.cell
          have g8 := h8.f4.cell
          clear gc glt h7 h6 d0 d1 d2 d3 d4
          go_wp2
          go_roundw
          case rel =>
            refine ⟨k + 1, (cstart l (xo, xt) xn xp).1, by omega, by go_num, by omega, ?_⟩
            rw [E.out]
            exact h8.f2.drop.f2.drop.f2
          case measure => simp [intOf]; omega
        · have e := cstart_but (l := l) hkk xn xp
          have hne : (xo == yo && xt == yt) = false := by
            rw [Bool.eq_false_iff]
            intro h
            simp at h
            exact hkk (by rw [h.1, h.2])
          have E := Lib.hid e
          clear e hkk
          go_wp2_with fail
          refine (c_start ca l (xo, xt) hk2 xn xp _ _ _ h7.f4).mono ?_
          rintro e w5 ⟨rfl, h8⟩
          have k8 := h8.f2.cell
          have a8 := h8.f3.cell
          have g8 := h8.f4.cell
          clear gc glt h7 h6 d0 d1 d2 d3 d4
          go_wp2_with fail
          refine (c_start cb (but l (yo, yt)) (xo, xt) hk2 xn xp _ _ _ h8.f5).mono ?_
          rintro e w6 ⟨rfl, h9⟩
          rw [E.out] at h9
          clear k8 a8 g8
          go_wp2
          go_roundw
          case rel => exact ⟨k + 1, (cstart l (xo, xt) xn xp).1, by omega, by go_num, by omega, h9.f3.drop.f3.drop.f3.m2⟩
          case measure => simp [intOf]; omega
      · obtain rfl : k = m := by omega
        obtain ⟨bm, h7⟩ := h6.f2.c_open
        have hnd := h7.f2.map_nodup
        have hmd : mdel l (yo, yt) = but l (yo, yt) := mdel_filter hnd
        have hbl : (but l (yo, yt)).length ≤ 100000 := by have := List.length_filter_le (fun p => decide (p.1 ≠ (yo, yt))) l; unfold but; omega
        have hall : ∀ y ∈ dueK (but l (yo, yt)) 4611686018427387904, y ≠ (yo, yt) := by
          intro y hy
          unfold dueK at hy
          rw [(sortK_perm _ _).mem_iff] at hy
          obtain ⟨p, hp, rfl⟩ := List.mem_map.1 hy
          have := (List.mem_filter.1 ((List.mem_filter.1 hp).1)).2
          simpa using this
        have hdl : (dueK (but l (yo, yt)) 4611686018427387904).length ≤ 100000 := by
          unfold dueK
          rw [(sortK_perm _ _).length_eq, List.length_map]
          exact Nat.le_trans (List.length_filter_le _ _) hbl
        have g6 := h6.cell
        clear h7
        go_wp2_with fail
        refine (c_runs ca l (yo, yt) hgo _ _ _ h6.f2).mono ?_
        rintro e w5 ⟨rfl, h7⟩
        have g7 := h7.f2.cell
        clear g6 h6
        go_wp2_with fail
        refine (c_stop ca l (yo, yt) hgo _ _ _ h7).mono ?_
        rintro e w6 ⟨rfl, h8⟩
        rw [hmd] at h8
        clear h7 g7 hmd
        generalize (mlook l (yo, yt)).isSome = bb at *
        go_wp2_with fail
        refine (ck_wakes _ _ _ h8).mono ?_
        rintro e w7 ⟨rfl, h9⟩
        go_wp2_with fail
        refine (c_due ca _ 4611686018427387904 _ _ _ h9 hbl).mono ?_
        rintro e w8 ⟨v1, rfl, h10⟩
        go_wp2_with fail
        refine (c_due cb _ 4611686018427387904 _ _ _ (h10.f4) hbl).mono ?_
        rintro e w9 ⟨v2, rfl, h11⟩
        generalize dueK (but l (yo, yt)) 4611686018427387904 = ks at *
        have h12 := h11.f2.drop.f3.drop.f2
        obtain ⟨av1, cap1, rfl, _, _⟩ := h12.l_shape
        obtain ⟨av2, cap2, rfl, _, _⟩ := h12.f2.l_shape
        clear h8 h9 h10 h11 hbl hnd
        obtain ⟨n, hn⟩ : ∃ n, ks.length = n := ⟨_, rfl⟩
        rw [hn] at hdl ⊢
        go_wp2
        go_loopw [82] (fun i wr => ∃ j : Nat, j ≤ n ∧ i = .int .i64 j ∧ St w wr (LAt 43 2 keyC (.slice av1 n cap1) ks * (LAt 43 2 keyC (.slice av2 n cap2) ks * (blk gb (.cells #[.int .i64 yo, .int .i64 yt] 43 (0, 0)) * Old w)))) (fun i _ => n - (intOf i).toNat)
        case atStart => exact ⟨0, by omega, rfl, by rw [← hn]; exact h12⟩
        case round =>
          clear h12
          obtain ⟨j, hj, rfl, h13⟩ := hrel
          by_cases hlt2 : j < n
          · obtain ⟨⟨y1, y2⟩, hy⟩ : ∃ y, ks[j]? = some y := ⟨_, List.getElem?_eq_getElem (by omega)⟩
            have hne : (y1 == yo && y2 == yt) = false := by
              rw [Bool.eq_false_iff]
              intro h
              simp at h
              exact hall _ (List.mem_of_getElem? hy) (by rw [h.1, h.2])
            have gc := h13.f3.cell
            rcases h13.l_cells tyKey.len with ⟨h0, _⟩ | ⟨g1, off1, cp1, hv1, _, _, hc1⟩
            · rw [h0] at hn; simp at hn; omega
            rcases h13.f2.l_cells tyKey.len with ⟨h0, _⟩ | ⟨g2, off2, cp2, hv2, _, _, hc2⟩
            · rw [h0] at hn; simp at hn; omega
            simp only [Value.slice.injEq] at hv1 hv2
            obtain ⟨rfl, _, rfl⟩ := hv1
            obtain ⟨rfl, _, rfl⟩ := hv2
            have d0 : wr.cell? ⟨g1, off1 + j * 2, none⟩ = some (.int .i64 y1) := hc1 j _ hy 0 _ rfl
            have d1 : wr.cell? ⟨g1, off1 + j * 2 + 1, none⟩ = some (.int .i64 y2) := hc1 j _ hy 1 _ rfl
            have e0 : wr.cell? ⟨g2, off2 + j * 2, none⟩ = some (.int .i64 y1) := hc2 j _ hy 0 _ rfl
            have e1 : wr.cell? ⟨g2, off2 + j * 2 + 1, none⟩ = some (.int .i64 y2) := hc2 j _ hy 1 _ rfl
            have hji : (j : Int) < (n : Int) := by omega
            have H13 := Lib.hid h13
            have q1 : ∀ w, (Op.equalIn 10000 43 (.agg #[.int .i64 y1, .int .i64 y2]) (.agg #[.int .i64 y1, .int .i64 y2])).run Try.prog w = .ok true w := fun w => by rw [key_eq]; simp
            have q2 : ∀ w, (Op.equalIn 10000 43 (.agg #[.int .i64 y1, .int .i64 y2]) (.agg #[.int .i64 yo, .int .i64 yt])).run Try.prog w = .ok false w := fun w => by rw [key_eq, hne]
            clear h13 hc1 hc2 hy hall hEq hne hn hgo hk hlt hm hm100 hlen l1 l2 l3
            go_upto_region 20 with fail
            go_quiet (fail)
            go_wp2
            go_roundw
            case rel => exact ⟨j + 1, by omega, by go_num, H13.out.drewN _⟩
            case measure => simp [intOf]; omega
          · go_wp2
            go_ret
            exact ⟨rfl, h13.drop.drop.drop.old0⟩
end Go.Proofs.Ytbnbknabedgpcaa
