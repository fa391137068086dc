/- ClockPlays: the walk. -/
import Derived.Test.YtbnbknabedgpcaaClockRefD
import Derived.BigQuiet
namespace Go.Proofs.Ytbnbknabedgpcaa
open Go.RowKit Go.Sort

section
variable {c r : Nat} {l l' L L' : Tms} {k1 k2 o now period er u f : Int} {b : Bool} {w0 w : World} {R : HP}
theorem c_stop_to (h : St w0 w (CAt c l * R)) (hk : okK (k1, k2)) (eb : (mlook l (k1, k2)).isSome = b) :
    Calls Try.prog 24 #[ptrC c, .agg #[.int .i64 k1, .int .i64 k2]] w fun e w' => e = .returned (.bool b) ∧ St w0 w' (CAt c (mdel l (k1, k2)) * R) := by
  have := c_stop c l (k1, k2) hk w0 w R h
  rw [eb] at this
  exact this
theorem r_stop_to (h : St w0 w (CRef r L * R)) (hL : L.length ≤ 100000) (eb : decide ((but L (k1, k2)).length < L.length) = b) :
    Calls Try.prog 25 #[ptrC r, .int .i64 k1, .int .i64 k2] w fun e w' => e = .returned (.bool b) ∧ St w0 w' (CRef r (but L (k1, k2)) * R) := by
  have := r_stop r L hL k1 k2 w0 w R h
  rw [eb] at this
  exact this
theorem c_drop_to (h : St w0 w (CAt c l * R)) (hl : l.length ≤ 100000) (en : (l.length : Int) - (dropped l o).length = u) :
    Calls Try.prog 26 #[ptrC c, .int .i64 o] w fun e w' => e = .returned (.int .i64 u) ∧ St w0 w' (CAt c (dropped l o) * R) := by
  have := c_drop c l o w0 w R h (by omega)
  rw [en] at this
  exact this
theorem r_drop_to (h : St w0 w (CRef r L * R)) (hL : L.length ≤ 100000) (en : (L.length : Int) - (dropped L o).length = u) :
    Calls Try.prog 27 #[ptrC r, .int .i64 o] w fun e w' => e = .returned (.int .i64 u) ∧ St w0 w' (CRef r (dropped L o) * R) := by
  have := r_drop r L hL o w0 w R h
  rw [en] at this
  exact this
theorem r_start_to (h : St w0 w (CRef r L * R)) (hL : L.length ≤ 100000) (e : rstart L (k1, k2) now period = (L', er)) :
    Calls Try.prog 29 #[ptrC r, .int .i64 k1, .int .i64 k2, .int .i64 now, .int .i64 period] w fun e w' => e = .returned (.int .i64 er) ∧ St w0 w' (CRef r L' * R) := by
  have := r_start r L hL k1 k2 now period w0 w R h
  rw [e] at this
  exact this
theorem c_runs_to (h : St w0 w (CAt c l * R)) (hk : okK (k1, k2)) (eu : (mlook l (k1, k2)).getD 0 = u) (eb : (mlook l (k1, k2)).isSome = b) :
    Calls Try.prog 23 #[ptrC c, .agg #[.int .i64 k1, .int .i64 k2]] w fun e w' => e = .returned (.tuple #[.int .i64 u, .bool b]) ∧ St w0 w' (CAt c l * R) := by
  have := c_runs c l (k1, k2) hk w0 w R h
  rw [eu, eb] at this
  exact this
theorem r_runs_to (h : St w0 w (CRef r L * R)) (hn : (L.map (·.1)).Nodup) (hL : L.length ≤ 100000) (eu : (mlook L (k1, k2)).getD 0 = u) (eb : (mlook L (k1, k2)).isSome = b) :
    Calls Try.prog 30 #[ptrC r, .int .i64 k1, .int .i64 k2] w fun e w' => e = .returned (.tuple #[.int .i64 u, .bool b]) ∧ St w0 w' (CRef r L * R) := by
  have := r_runs r L hn hL k1 k2 w0 w R h
  rw [eu, eb] at this
  exact this
theorem r_next_to (h : St w0 w (CRef r L * R)) (e : headT L = (f, b)) :
    Calls Try.prog 31 #[ptrC r] w fun e w' => e = .returned (.tuple #[.int .i64 f, .bool b]) ∧ St w0 w' (CRef r L * R) := by
  have := r_next r L w0 w R h
  rw [e] at this
  exact this
end
theorem Same.len {l L : Tms} (h : Same l L) : L.length = l.length := h.perm.length_eq
theorem Same.start {l L : Tms} (h : Same l L) (k : Key) (now period : Int) : ∃ l' L' er, cstart l k now period = (l', er) ∧ rstart L k now period = (L', er) ∧ Same l' L' ∧ l'.length ≤ l.length + 1 := by
  have hle := cstart_length l k now period
  unfold cstart rstart at *
  split
  · exact ⟨l, L, 2, rfl, rfl, h, by omega⟩
  · rename_i hb
    rw [if_neg hb] at hle
    exact ⟨_, _, 0, rfl, rfl, h.put k _, hle⟩


set_option maxRecDepth 100000 in
set_option maxHeartbeats 3200000 in
theorem ClockPlays.walk (a0 : Option Addr) (len0 cap0 : Nat) (a1 : Array Value) (w : World) (w0 : (Sh.slice CkSh).ok w [.slice a0 len0 cap0]) (w1 : Sh.ok w CkSh a1.toList) :
    Calls Try.prog 7 #[.slice a0 len0 cap0, .agg a1] w fun e w' => e = .returned (.bool true) ∧ Below w.heap.size w w' := by
  obtain ⟨l1, l2, l3⟩ := ck_script w0
  unfold maxLen at l2
  obtain ⟨y, hy, yok⟩ := ck_one w1
  obtain rfl : a1 = y.cells := by cases a1; simp only at hy; rw [hy]
  obtain ⟨yd, yo, yt, yn, yp⟩ := y
  have hgo := yok.1
  simp only [] at hgo
  have h0 := (St.start w).alloc (.cells #[.int .i64 yd, .int .i64 yo, .int .i64 yt, .int .i64 yn, .int .i64 yp] 41)
  clear w0 w1 hy yok
  go_enter Try.func7, Try.ntmps7
  go_wp2_with fail
  refine (c_new _ _ _ h0).mono ?_
  rintro e w2 ⟨c, rfl, h2⟩
  have h3 := ((h2.l_nil 64 3 tmC).alloc (.cells #[.slice none 0 0] 58)).r_shut.f2
  go_wp2_with fail
  refine (ck_wakes w _ _ h3).mono ?_
  rintro e wz ⟨rfl, h5⟩
  generalize w2.heap.size = r at *
  clear h0 h2 h3
  go_upto_region 4 with fail
  go_cut [32, 33, 34] (fun s33 s34 s35 wx => ∃ m : Nat, m ≤ len0 ∧ m ≤ 100 ∧ s33 = .slice a0 m cap0 ∧ s34 = .int .i64 m ∧ s35 = .int .i64 0 ∧ wz = wx)
  case first =>
    go_wp2
    all_goals (go_meet; first | exact ⟨len0, Nat.le_refl _, by omega, rfl, rfl, rfl, rfl⟩ | exact ⟨100, by omega, by omega, rfl, rfl, rfl, rfl⟩ | (refine ⟨(min (len0 : Int) 100).toNat, by omega, by omega, ?_, ?_, rfl, rfl⟩ <;> (first | rfl | (congr 1; omega) | trace_state)))
  case rest =>
    obtain ⟨m, hm, hm100, rfl, rfl, rfl, rfl⟩ := hcut
    go_wp2
    go_loopw [34] (fun i wr => ∃ (k : Nat) (l L : Tms), k ≤ m ∧ i = .int .i64 k ∧ l.length ≤ k ∧ Hid (Same l L) ∧ St w wr (CAt c l * (CRef r L * (blk w.heap.size (.cells #[.int .i64 yd, .int .i64 yo, .int .i64 yt, .int .i64 yn, .int .i64 yp] 41 (0, 0)) * Old w)))) (fun i _ => m - (intOf i).toNat)
    case atStart => exact ⟨0, [], [], by omega, rfl, by simp, Lib.hid Same.nil, h5⟩
    case round =>
      clear h5
      obtain ⟨k, l, L, hk, rfl, hlen, hS, h6⟩ := hrel
      by_cases hlt : k < m
      · obtain ⟨b, off, rfl, hb, hi⟩ := l3 (by omega)
        obtain ⟨x, xok, c0, c1, c2, c3, c4⟩ := hi k (by omega)
        obtain ⟨xd, xo, xt, xn, xp⟩ := x
        simp only [] at c0 c1 c2 c3 c4
        have hbel := (h6.drop.drop.drop).old0
        have d0 := (hbel.cell (p := ⟨b, off + k * 5, none⟩) hb).trans c0
        have d1 := (hbel.cell (p := ⟨b, off + k * 5 + 1, none⟩) hb).trans c1
        have d2 := (hbel.cell (p := ⟨b, off + k * 5 + 2, none⟩) hb).trans c2
        have d3 := (hbel.cell (p := ⟨b, off + k * 5 + 3, none⟩) hb).trans c3
        have d4 := (hbel.cell (p := ⟨b, off + k * 5 + 4, none⟩) hb).trans c4
        clear hi l3 c0 c1 c2 c3 c4 hbel
        have hk2 := xok.1
        simp only [] at hk2
        have h7 := (h6.alloc (.cells #[.int .i64 xd, .int .i64 xo, .int .i64 xt, .int .i64 xn, .int .i64 xp] 41)).alloc (.cells #[.int .i64 xo, .int .i64 xt] 43)
        simp only [World.size_alloc] at h7
        go_upto_block 2 with fail
        generalize (wr.alloc _).alloc _ = wa at *
        generalize wr.heap.size = ga at *
        obtain ⟨gk, hgk⟩ : ∃ gk, gk = ga + 1 := ⟨_, rfl⟩
        rw [← hgk] at h7 ⊢
        clear hgk h6 d0 d1 d2 d3 d4
        have e0 := h7.cell
        have f0 := h7.f2.cell
        have hLn := hS.out.len
        have hL : L.length ≤ 100000 := by omega
        have hl : l.length ≤ 100000 := by omega
        go_cut [] (fun wx => ∃ l' L' : Tms, l'.length ≤ k + 1 ∧ Hid (Same l' L') ∧ St w wx (blk ga (.cells #[.int .i64 xd, .int .i64 xo, .int .i64 xt, .int .i64 xn, .int .i64 xp] 41 (0, 0)) * (CAt c l' * (CRef r L' * (blk w.heap.size (.cells #[.int .i64 yd, .int .i64 yo, .int .i64 yt, .int .i64 yn, .int .i64 yp] 41 (0, 0)) * Old w)))))
        case first =>
          obtain ⟨sb, hsb⟩ : ∃ b, (mlook l (xo, xt)).isSome = b := ⟨_, rfl⟩
          have hsb2 : decide ((but L (xo, xt)).length < L.length) = sb := (hS.out.was (xo, xt)).trans hsb
          have hsS := Lib.hid (hS.out.but (xo, xt))
          obtain ⟨dn, hdn⟩ : ∃ n : Int, (l.length : Int) - (dropped l xo).length = n := ⟨_, rfl⟩
          have hdS := Lib.hid (hS.out.drop xo)
          have hdn2 : (L.length : Int) - (dropped L xo).length = dn := by rw [hLn, hdS.out.len]; exact hdn
          have hdl : (dropped l xo).length ≤ l.length := List.length_filter_le _ _
          obtain ⟨l', L', er, hst1, hst2, hstS, hstl⟩ := hS.out.start (xo, xt) xn xp
          have hml : (mdel l (xo, xt)).length ≤ l.length := by rw [mdel_but hS.out.nd]; exact List.length_filter_le _ _
          have hA1 := fun (w5 : World) (R : HP) (h : St w w5 (CAt c l * R)) => c_stop_to h hk2 hsb
          have hA2 := fun (w5 : World) (R : HP) (h : St w w5 (CRef r L * R)) => r_stop_to h hL hsb2
          have hB1 := fun (w5 : World) (R : HP) (h : St w w5 (CAt c l * R)) => c_drop_to h hl hdn
          have hB2 := fun (w5 : World) (R : HP) (h : St w w5 (CRef r L * R)) => r_drop_to h hL hdn2
          have hC1 := fun (w5 : World) (R : HP) (h : St w w5 (CAt c l * R)) => c_start_to h hk2 hst1
          have hC2 := fun (w5 : World) (R : HP) (h : St w w5 (CRef r L * R)) => r_start_to h hL hst2
          have A1 := Lib.hid hA1
          have A2 := Lib.hid hA2
          have B1 := Lib.hid hB1
          have B2 := Lib.hid hB2
          have C1 := Lib.hid hC1
          have C2 := Lib.hid hC2
          have HST := Lib.hid hstS
          clear hA1 hA2 hB1 hB2 hC1 hC2 hsb hsb2 hdn hdn2 hst1 hst2 hstS
          go_wp2_with fail
          · go_region_held3 (fun w' => w'.cell? ⟨gk, 0, none⟩ = some (.int .i64 xo) ∧ w'.cell? ⟨gk, 1, none⟩ = some (.int .i64 xt) ∧ w'.cell? ⟨ga, 1, none⟩ = some (.int .i64 xo) ∧ w'.cell? ⟨ga, 2, none⟩ = some (.int .i64 xt) ∧ w'.cell? ⟨ga, 3, none⟩ = some (.int .i64 xn) ∧ w'.cell? ⟨ga, 4, none⟩ = some (.int .i64 xp)) (first | exact ⟨e0 0, e0 1, f0 1, f0 2, f0 3, f0 4⟩ | exact ⟨e1 0, e1 1, f1 1, f1 2, f1 3, f1 4⟩ | exact ⟨e2 0, e2 1, f2 1, f2 2, f2 3, f2 4⟩) (first | (go_at_call 24; refine (A1.out _ _ h7.drew.f3).mono ?_; rintro e w5 ⟨rfl, h8⟩; have e1 := h8.f2.cell; have f1 := h8.f3.cell) | (go_at_call 25; refine (A2.out _ _ h8.f4).mono ?_; rintro e w6 ⟨rfl, h9⟩; have e2 := h9.f3.cell; have f2 := h9.f4.cell))
            go_wp2
            go_meet
            exact ⟨_, _, by omega, hsS, h9.f3.drop.f3.m2⟩
          · go_region_held3 (fun w' => w'.cell? ⟨gk, 0, none⟩ = some (.int .i64 xo) ∧ w'.cell? ⟨gk, 1, none⟩ = some (.int .i64 xt) ∧ w'.cell? ⟨ga, 1, none⟩ = some (.int .i64 xo) ∧ w'.cell? ⟨ga, 2, none⟩ = some (.int .i64 xt) ∧ w'.cell? ⟨ga, 3, none⟩ = some (.int .i64 xn) ∧ w'.cell? ⟨ga, 4, none⟩ = some (.int .i64 xp)) (first | exact ⟨e0 0, e0 1, f0 1, f0 2, f0 3, f0 4⟩ | exact ⟨e1 0, e1 1, f1 1, f1 2, f1 3, f1 4⟩ | exact ⟨e2 0, e2 1, f2 1, f2 2, f2 3, f2 4⟩) (first | (go_at_call 24; refine (A1.out _ _ h7.drew.f3).mono ?_; rintro e w5 ⟨rfl, h8⟩; have e1 := h8.f2.cell; have f1 := h8.f3.cell) | (go_at_call 25; refine (A2.out _ _ h8.f4).mono ?_; rintro e w6 ⟨rfl, h9⟩; have e2 := h9.f3.cell; have f2 := h9.f4.cell))
            go_wp2
            go_meet
            exact ⟨_, _, by omega, hsS, h9.f3.drop.f3.m2⟩
          · go_region_held3 (fun w' => w'.cell? ⟨gk, 0, none⟩ = some (.int .i64 xo) ∧ w'.cell? ⟨gk, 1, none⟩ = some (.int .i64 xt) ∧ w'.cell? ⟨ga, 1, none⟩ = some (.int .i64 xo) ∧ w'.cell? ⟨ga, 2, none⟩ = some (.int .i64 xt) ∧ w'.cell? ⟨ga, 3, none⟩ = some (.int .i64 xn) ∧ w'.cell? ⟨ga, 4, none⟩ = some (.int .i64 xp)) (first | exact ⟨e0 0, e0 1, f0 1, f0 2, f0 3, f0 4⟩ | exact ⟨e1 0, e1 1, f1 1, f1 2, f1 3, f1 4⟩ | exact ⟨e2 0, e2 1, f2 1, f2 2, f2 3, f2 4⟩) (first | (go_at_call 26; refine (B1.out _ _ h7.drew.f3).mono ?_; rintro e w5 ⟨rfl, h8⟩; have e1 := h8.f2.cell; have f1 := h8.f3.cell) | (go_at_call 27; refine (B2.out _ _ h8.f4).mono ?_; rintro e w6 ⟨rfl, h9⟩; have e2 := h9.f3.cell; have f2 := h9.f4.cell))
            go_wp2
            go_meet
            exact ⟨_, _, by omega, hdS, h9.f3.drop.f3.m2⟩
          · go_region_held3 (fun w' => w'.cell? ⟨gk, 0, none⟩ = some (.int .i64 xo) ∧ w'.cell? ⟨gk, 1, none⟩ = some (.int .i64 xt) ∧ w'.cell? ⟨ga, 1, none⟩ = some (.int .i64 xo) ∧ w'.cell? ⟨ga, 2, none⟩ = some (.int .i64 xt) ∧ w'.cell? ⟨ga, 3, none⟩ = some (.int .i64 xn) ∧ w'.cell? ⟨ga, 4, none⟩ = some (.int .i64 xp)) (first | exact ⟨e0 0, e0 1, f0 1, f0 2, f0 3, f0 4⟩ | exact ⟨e1 0, e1 1, f1 1, f1 2, f1 3, f1 4⟩ | exact ⟨e2 0, e2 1, f2 1, f2 2, f2 3, f2 4⟩) (first | (go_at_call 26; refine (B1.out _ _ h7.drew.f3).mono ?_; rintro e w5 ⟨rfl, h8⟩; have e1 := h8.f2.cell; have f1 := h8.f3.cell) | (go_at_call 27; refine (B2.out _ _ h8.f4).mono ?_; rintro e w6 ⟨rfl, h9⟩; have e2 := h9.f3.cell; have f2 := h9.f4.cell))
            go_wp2
            go_meet
            exact ⟨_, _, by omega, hdS, h9.f3.drop.f3.m2⟩
          · go_region_held3 (fun w' => w'.cell? ⟨ga, 3, none⟩ = some (.int .i64 xn)) (first | exact f0 3 | exact f1 3 | exact f2 3) (first | (go_at_call 21; refine (c_due c l xn w _ _ h7.drew.f3 hl).mono ?_; rintro e w5 ⟨v1, rfl, h8⟩; have f1 := h8.f4.cell) | (go_at_call 28; refine (r_due r L hL xn w _ _ h8.f5).mono ?_; rintro e w6 ⟨v2, done, rest, rfl, hdd, hd1, hd2, h9⟩; have f2 := h9.drop.f5.cell))
            obtain ⟨hk1, hS3⟩ := hS.out.due hdd hd1 hd2
            have HS3 := Lib.hid hS3
            have hdl2 : done.length ≤ L.length := by rw [hdd]; simp
            obtain ⟨ks, hks⟩ : ∃ ks, done.map (·.1) = ks := ⟨_, rfl⟩
            have hn : ks.length = done.length := by rw [← hks]; simp
            have hat : ∀ j : Nat, j < done.length → ∃ y1 y2 yu, done[j]? = some ((y1, y2), yu) ∧ ks[j]? = some (y1, y2) := fun j hj => ⟨done[j].1.1, done[j].1.2, done[j].2, List.getElem?_eq_getElem hj, by rw [← hks, List.getElem?_map, List.getElem?_eq_getElem hj]; rfl⟩
            obtain ⟨n, hdn⟩ : ∃ n, done.length = n := ⟨_, rfl⟩
            rw [hk1, hks] at h9
            rw [hdn] at hn hat hdl2
            have HAT := Lib.hid hat
            have s1 := h9.f3.l_shape
            have s2 := h9.l_shape
            rw [hn] at s1
            rw [hdn] at s2
            obtain ⟨a1, cp1, rfl, _, _⟩ := s1
            obtain ⟨a2, cp2, rfl, _, _⟩ := s2
            have h10 := h9.f5.drop
            have hleft := leftK_len (l := l) xn
            have HDN := Lib.hid hdn
            clear e0 f0 f1 f2 h7 h8 h9 hdd hd1 hd2 hk1 hks hn hdn hat hS3
            go_wp2
            go_loopw [107] (fun i wr2 => ∃ j : Nat, j ≤ n ∧ i = .int .i64 j ∧ St w wr2 (LAt 64 3 tmC (.slice a2 n cp2) done * (CRef r rest * (LAt 43 2 keyC (.slice a1 n cp1) ks * (CAt c (leftK l xn) * (blk ga (.cells #[.int .i64 xd, .int .i64 xo, .int .i64 xt, .int .i64 xn, .int .i64 xp] 41 (0, 0)) * (blk w.heap.size (.cells #[.int .i64 yd, .int .i64 yo, .int .i64 yt, .int .i64 yn, .int .i64 yp] 41 (0, 0)) * Old w))))))) (fun i _ => n - (intOf i).toNat)
            case atStart => exact ⟨0, by omega, rfl, h10⟩
            case round =>
              clear h10
              obtain ⟨j, hj, rfl, h11⟩ := hrel
              by_cases hj2 : j < n
              · obtain ⟨y1, y2, yu, hy1, hy2⟩ := HAT.out j hj2
                rcases h11.l_cells tyTm.len with ⟨h0, _⟩ | ⟨g1, off1, c1, hv1, _, _, hc1⟩
                · rw [h0] at hy1; simp at hy1
                rcases h11.f3.l_cells tyKey.len with ⟨h0, _⟩ | ⟨g2, off2, c2, hv2, _, _, hc2⟩
                · rw [h0] at hy2; simp at hy2
                simp only [Value.slice.injEq] at hv1 hv2
                obtain ⟨rfl, _, rfl⟩ := hv1
                obtain ⟨rfl, _, rfl⟩ := hv2
                have d0 := hc1 _ _ hy1 0 _ rfl
                have d1 := hc1 _ _ hy1 1 _ rfl
                have e0 := hc2 _ _ hy2 0 _ rfl
                have e1 := hc2 _ _ hy2 1 _ rfl
                simp only [Nat.add_zero] at d0 e0
                have q1 : (y1 != y1) = false := by simp
                have q2 : (y2 != y2) = false := by simp
                have hji : (j : Int) < (n : Int) := by omega
                have H11 := Lib.hid h11
                clear hc1 hc2 hy1 hy2 h11
                go_upto_region 27 with fail
                go_quiet (fail)
                go_wp2
                go_roundw
                case rel => exact ⟨j + 1, by omega, by go_num, H11.out.drewN _⟩
                case measure => simp [intOf]; omega
              · go_wp2
                go_meet
                exact ⟨_, _, by omega, HS3, h11.drop.f2.drop.f3.m2⟩
          · go_region_held3 (fun w' => w'.cell? ⟨ga, 3, none⟩ = some (.int .i64 xn)) (first | exact f0 3 | exact f1 3 | exact f2 3) (first | (go_at_call 21; refine (c_due c l xn w _ _ h7.drew.f3 hl).mono ?_; rintro e w5 ⟨v1, rfl, h8⟩; have f1 := h8.f4.cell) | (go_at_call 28; refine (r_due r L hL xn w _ _ h8.f5).mono ?_; rintro e w6 ⟨v2, done, rest, rfl, hdd, hd1, hd2, h9⟩; have f2 := h9.drop.f5.cell))
            obtain ⟨hk1, hS3⟩ := hS.out.due hdd hd1 hd2
            have HS3 := Lib.hid hS3
            have hdl2 : done.length ≤ L.length := by rw [hdd]; simp
            obtain ⟨ks, hks⟩ : ∃ ks, done.map (·.1) = ks := ⟨_, rfl⟩
            have hn : ks.length = done.length := by rw [← hks]; simp
            have hat : ∀ j : Nat, j < done.length → ∃ y1 y2 yu, done[j]? = some ((y1, y2), yu) ∧ ks[j]? = some (y1, y2) := fun j hj => ⟨done[j].1.1, done[j].1.2, done[j].2, List.getElem?_eq_getElem hj, by rw [← hks, List.getElem?_map, List.getElem?_eq_getElem hj]; rfl⟩
            obtain ⟨n, hdn⟩ : ∃ n, done.length = n := ⟨_, rfl⟩
            rw [hk1, hks] at h9
            rw [hdn] at hn hat hdl2
            have HAT := Lib.hid hat
            have s1 := h9.f3.l_shape
            have s2 := h9.l_shape
            rw [hn] at s1
            rw [hdn] at s2
            obtain ⟨a1, cp1, rfl, _, _⟩ := s1
            obtain ⟨a2, cp2, rfl, _, _⟩ := s2
            have h10 := h9.f5.drop
            have hleft := leftK_len (l := l) xn
            have HDN := Lib.hid hdn
            clear e0 f0 f1 f2 h7 h8 h9 hdd hd1 hd2 hk1 hks hn hdn hat hS3
            go_wp2
            go_loopw [107] (fun i wr2 => ∃ j : Nat, j ≤ n ∧ i = .int .i64 j ∧ St w wr2 (LAt 64 3 tmC (.slice a2 n cp2) done * (CRef r rest * (LAt 43 2 keyC (.slice a1 n cp1) ks * (CAt c (leftK l xn) * (blk ga (.cells #[.int .i64 xd, .int .i64 xo, .int .i64 xt, .int .i64 xn, .int .i64 xp] 41 (0, 0)) * (blk w.heap.size (.cells #[.int .i64 yd, .int .i64 yo, .int .i64 yt, .int .i64 yn, .int .i64 yp] 41 (0, 0)) * Old w))))))) (fun i _ => n - (intOf i).toNat)
            case atStart => exact ⟨0, by omega, rfl, h10⟩
            case round =>
              clear h10
              obtain ⟨j, hj, rfl, h11⟩ := hrel
              by_cases hj2 : j < n
              · obtain ⟨y1, y2, yu, hy1, hy2⟩ := HAT.out j hj2
                rcases h11.l_cells tyTm.len with ⟨h0, _⟩ | ⟨g1, off1, c1, hv1, _, _, hc1⟩
                · rw [h0] at hy1; simp at hy1
                rcases h11.f3.l_cells tyKey.len with ⟨h0, _⟩ | ⟨g2, off2, c2, hv2, _, _, hc2⟩
                · rw [h0] at hy2; simp at hy2
                simp only [Value.slice.injEq] at hv1 hv2
                obtain ⟨rfl, _, rfl⟩ := hv1
                obtain ⟨rfl, _, rfl⟩ := hv2
                have d0 := hc1 _ _ hy1 0 _ rfl
                have d1 := hc1 _ _ hy1 1 _ rfl
                have e0 := hc2 _ _ hy2 0 _ rfl
                have e1 := hc2 _ _ hy2 1 _ rfl
                simp only [Nat.add_zero] at d0 e0
                have q1 : (y1 != y1) = false := by simp
                have q2 : (y2 != y2) = false := by simp
                have hji : (j : Int) < (n : Int) := by omega
                have H11 := Lib.hid h11
                clear hc1 hc2 hy1 hy2 h11
                go_upto_region 27 with fail
                go_quiet (fail)
                go_wp2
                go_roundw
                case rel => exact ⟨j + 1, by omega, by go_num, H11.out.drewN _⟩
                case measure => simp [intOf]; omega
              · go_wp2
                go_meet
                exact ⟨_, _, by omega, HS3, h11.drop.f2.drop.f3.m2⟩
          · go_region_held3 (fun w' => w'.cell? ⟨gk, 0, none⟩ = some (.int .i64 xo) ∧ w'.cell? ⟨gk, 1, none⟩ = some (.int .i64 xt) ∧ w'.cell? ⟨ga, 1, none⟩ = some (.int .i64 xo) ∧ w'.cell? ⟨ga, 2, none⟩ = some (.int .i64 xt) ∧ w'.cell? ⟨ga, 3, none⟩ = some (.int .i64 xn) ∧ w'.cell? ⟨ga, 4, none⟩ = some (.int .i64 xp)) (first | exact ⟨e0 0, e0 1, f0 1, f0 2, f0 3, f0 4⟩ | exact ⟨e1 0, e1 1, f1 1, f1 2, f1 3, f1 4⟩ | exact ⟨e2 0, e2 1, f2 1, f2 2, f2 3, f2 4⟩) (first | (go_at_call 19; refine (C1.out _ _ h7.drew.f3).mono ?_; rintro e w5 ⟨rfl, h8⟩; have e1 := h8.f2.cell; have f1 := h8.f3.cell) | (go_at_call 29; refine (C2.out _ _ h8.f4).mono ?_; rintro e w6 ⟨rfl, h9⟩; have e2 := h9.f3.cell; have f2 := h9.f4.cell))
            go_wp2
            go_meet
            exact ⟨_, _, by omega, HST, h9.f3.drop.f3.m2⟩
        case rest =>
          obtain ⟨l', L', hlen', hS', h8⟩ := hcut
          have hL' : L'.length ≤ 100000 := by rw [hS'.out.len]; omega
          have hl' : l'.length ≤ 100000 := by omega
          clear h7 e0 f0 hS hLn hL hl
          have g0 := h8.cell
          have g3 := h8.f4.cell
          have h9 := ((h8.drop.alloc (.cells #[.int .i64 xd, .int .i64 xo, .int .i64 xt, .int .i64 xn, .int .i64 xp, .int .i64 yd, .int .i64 yo, .int .i64 yt, .int .i64 yn, .int .i64 yp] 41)))
          go_upto_block 5 with fail
          generalize wc.alloc _ = wd at *
          generalize wc.heap.size = gs at *
          clear g0 g3 h8
          go_wp2
          go_loopw [139] (fun i wr2 => ∃ j : Nat, j ≤ 2 ∧ i = .int .i64 j ∧ St w wr2 (blk gs (.cells #[.int .i64 xd, .int .i64 xo, .int .i64 xt, .int .i64 xn, .int .i64 xp, .int .i64 yd, .int .i64 yo, .int .i64 yt, .int .i64 yn, .int .i64 yp] 41 (0, 0)) * (CAt c l' * (CRef r L' * (blk w.heap.size (.cells #[.int .i64 yd, .int .i64 yo, .int .i64 yt, .int .i64 yn, .int .i64 yp] 41 (0, 0)) * Old w))))) (fun i _ => 2 - (intOf i).toNat)
          case atStart => exact ⟨0, by omega, rfl, h9⟩
          case round =>
            clear h9
            obtain ⟨j, hj, rfl, h9⟩ := hrel
            obtain rfl | rfl | rfl : j = 0 ∨ j = 1 ∨ j = 2 := by omega
            · have h10 := h9.alloc (.cells #[.int .i64 xd, .int .i64 xo, .int .i64 xt, .int .i64 xn, .int .i64 xp] 41)
              obtain ⟨u, hu⟩ : ∃ u, (mlook l' (xo, xt)).getD 0 = u := ⟨_, rfl⟩
              obtain ⟨b, hb⟩ : ∃ b, (mlook l' (xo, xt)).isSome = b := ⟨_, rfl⟩
              have hu2 : (mlook L' (xo, xt)).getD 0 = u := by rw [hS'.out.look]; exact hu
              have hb2 : (mlook L' (xo, xt)).isSome = b := by rw [hS'.out.look]; exact hb
              have hc1 := fun (w5 : World) (R : HP) (h : St w w5 (CAt c l' * R)) => c_runs_to h hk2 hu hb
              have hc2 := fun (w5 : World) (R : HP) (h : St w w5 (CRef r L' * R)) => r_runs_to h hS'.out.nd' hL' hu2 hb2
              have C1 := Lib.hid hc1
              have C2 := Lib.hid hc2
              clear hc1 hc2 hu hb hu2 hb2
              have g0 := h9.cell
              go_wp2_with fail
              refine (C1.out _ _ h10.f3).mono ?_
              rintro e w5 ⟨rfl, h11⟩
              have q0 := h11.f2.cell
              clear g0 h10
              go_wp2_with fail
              refine (C2.out _ _ h11.f4).mono ?_
              rintro e w6 ⟨rfl, h12⟩
              clear q0 h11
              go_wp2_with fail
              refine (c_next c l' _ _ _ h12.f2).mono ?_
              rintro e w7 ⟨f, bb, rfl, hN, h13⟩
              have hc4 := r_next_to h13.f2 (hS'.out.next hN)
              clear hN h12
              go_wp2_with fail
              refine hc4.mono ?_
              rintro e w8 ⟨rfl, h14⟩
              clear h13 hc4
              have q1 : (u != u) = false := by simp
              have q2 : (b != b) = false := by simp
              have q3 : (f != f) = false := by simp
              have q4 : (bb != bb) = false := by simp
              go_wp2
              go_roundw
              case rel => exact ⟨1, by omega, by go_num, h14.f3.drop.f3.m2⟩
              case measure => simp [intOf]
            · have h10 := h9.alloc (.cells #[.int .i64 yd, .int .i64 yo, .int .i64 yt, .int .i64 yn, .int .i64 yp] 41)
              obtain ⟨u, hu⟩ : ∃ u, (mlook l' (yo, yt)).getD 0 = u := ⟨_, rfl⟩
              obtain ⟨b, hb⟩ : ∃ b, (mlook l' (yo, yt)).isSome = b := ⟨_, rfl⟩
              have hu2 : (mlook L' (yo, yt)).getD 0 = u := by rw [hS'.out.look]; exact hu
              have hb2 : (mlook L' (yo, yt)).isSome = b := by rw [hS'.out.look]; exact hb
              have hc1 := fun (w5 : World) (R : HP) (h : St w w5 (CAt c l' * R)) => c_runs_to h hgo hu hb
              have hc2 := fun (w5 : World) (R : HP) (h : St w w5 (CRef r L' * R)) => r_runs_to h hS'.out.nd' hL' hu2 hb2
              have C1 := Lib.hid hc1
              have C2 := Lib.hid hc2
              clear hc1 hc2 hu hb hu2 hb2
              have g0 := h9.cell
              go_wp2_with fail
              refine (C1.out _ _ h10.f3).mono ?_
              rintro e w5 ⟨rfl, h11⟩
              have q0 := h11.f2.cell
              clear g0 h10
              go_wp2_with fail
              refine (C2.out _ _ h11.f4).mono ?_
              rintro e w6 ⟨rfl, h12⟩
              clear q0 h11
              go_wp2_with fail
              refine (c_next c l' _ _ _ h12.f2).mono ?_
              rintro e w7 ⟨f, bb, rfl, hN, h13⟩
              have hc4 := r_next_to h13.f2 (hS'.out.next hN)
              clear hN h12
              go_wp2_with fail
              refine hc4.mono ?_
              rintro e w8 ⟨rfl, h14⟩
              clear h13 hc4
              have q1 : (u != u) = false := by simp
              have q2 : (b != b) = false := by simp
              have q3 : (f != f) = false := by simp
              have q4 : (bb != bb) = false := by simp
              go_wp2
              go_roundw
              case rel => exact ⟨2, by omega, by go_num, h14.f3.drop.f3.m2⟩
              case measure => simp [intOf]
            · go_wp2
              go_roundw
              case rel => exact ⟨k + 1, l', L', by omega, by go_num, by omega, hS', h9.drop⟩
              case measure => simp [intOf]; omega
      · go_wp2
        go_ret
        exact ⟨rfl, h6.drop.drop.drop.old0⟩
end Go.Proofs.Ytbnbknabedgpcaa
