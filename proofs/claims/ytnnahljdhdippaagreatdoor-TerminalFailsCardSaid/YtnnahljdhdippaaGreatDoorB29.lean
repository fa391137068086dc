/- A terminal: Bits. A terminal: Tick, Drop. -/
import Derived.Test.YtnnahljdhdippaaGreatDoorB28
namespace Go.Proofs.YtnnahljdhdippaaGreatDoor
open Go.RowKit

theorem octs_le : ∀ l : List Bool, (octs l).length ≤ l.length
  | a :: b :: c :: d :: e :: f :: g :: h :: l => by
    have := octs_le l
    show (octs l).length + 1 ≤ _
    simp only [List.length_cons]
    omega
  | [] => Nat.zero_le _
  | [_] => Nat.zero_le _
  | [_, _] => Nat.zero_le _
  | [_, _, _] => Nat.zero_le _
  | [_, _, _, _] => Nat.zero_le _
  | [_, _, _, _, _] => Nat.zero_le _
  | [_, _, _, _, _, _] => Nat.zero_le _
  | [_, _, _, _, _, _, _] => Nat.zero_le _
theorem flag_small {d : De} (h : d.Fits) : ∀ v, d.flag.2 = some v → v.s.length ≤ 10000 := fun v hv => by
  unfold De.flag at hv
  split at hv
  · cases hv
  · split at hv
    · cases hv
      exact Nat.zero_le _
    · cases hv
      have h1 := octs_le (d.c.take (d.c.length - 6))
      have h2 : d.c.length ≤ 2135 := h
      rw [List.length_take] at h1
      show (octs _).length ≤ _
      omega
theorem bit_small {d : De} (h : d.Fits) (b : Bool) : ∀ v, (d.bit b).2 = some v → v.s.length ≤ 10000 := fun v hv => by
  unfold De.bit at hv
  split at hv
  · split at hv
    · cases hv
      exact Nat.zero_le _
    · cases hv
  · split at hv
    · split at hv
      · exact flag_small h v hv
      · cases hv
    · cases hv
theorem feed_small : ∀ (l : List Bool) {d : De}, d.Fits → ∀ v ∈ (d.feed l).2, v.s.length ≤ 10000
  | [], _, _, _, hv => by cases hv
  | b :: l, d, h, v, hv => by
    rcases List.mem_append.1 (show v ∈ (d.bit b).2.toList ++ (De.feed (d.bit b).1 l).2 from hv) with h1 | h1
    · exact bit_small h b v (by simpa using h1)
    · exact feed_small l (fits_bit h b) v h1
theorem events_snoc (x : Tt) (l : List Ev) (y : Ev) : (l ++ [y]).foldl Tt.event x = (l.foldl Tt.event x).event y := by rw [List.foldl_append]; rfl
set_option maxRecDepth 100000 in
set_option maxHeartbeats 1600000 in
theorem t_bits (t : Nat) (x : Tt) (now : Int) (b : ByteArray) (hfit : x.Fit) (ho : x.d.o ≤ 100000000000000000) (hs : b.size ≤ 1000000) (w0 w : World) (R : HP) (hN : ∀ w', St w0 w' R → NamesAt w') (hF : ∀ w', St w0 w' R → FirstAt w') (hL : ∀ w', St w0 w' R → LinkAt w') (h : St w0 w (TtOff t x * R)) :
    Calls Tryz.prog 20 #[ptr t, .int .i64 now, .string b] w fun r w' => ∃ sv tv, r = .returned (.tuple #[.agg #[sv, tv], .int .i64 (x.bits now b).2]) ∧ St w0 w' (LAt 9 1 encS sv (x.bits now b).1.sent * (LAt TTold 2 tolC tv (x.bits now b).1.told * (TtOff t (x.bits now b).1 * R))) := by
  have h1 := h.alloc (.cells #[.slice none 0 0, .slice none 0 0] TRes)
  unfold Tt.bits
  by_cases hb : badNow now = true
  · rw [if_pos hb]
    have hc := t_begin_bad t x now hb w0 _ _ h1.f2
    go_enter Tryz.func20, Tryz.ntmps20
    go_upto_region 1 with fail
    generalize w.alloc _ = wa at *
    generalize w.heap.size = ga at *
    go_wp2_with fail
    refine hc.mono ?_
    rintro r w5 ⟨rfl, h5⟩
    clear hc h1
    have h6 := h5.f2
    have c6 := h6.cell
    have f6 := h6.free
    have h9 := (h6.set 0 (.slice none 0 0)).set 1 (.slice none 0 0)
    clear h5 h6
    go_wp2
    have c9 := h9.cell
    refine bodyPost_ret (v := .tuple #[.agg #[.slice none 0 0, .slice none 0 0], .int .i64 2]) (by simp [results, Tryz.results20, go_sem, c9]) rfl ⟨_, _, rfl, ?_⟩
    exact (h9.drop.l_nil TTold 2 tolC).l_nil 9 1 encS
  · rw [if_neg hb]
    have hb : badNow now = false := by simpa using hb
    have hc := t_begin t x now hb w0 _ _ h1.f2
    have hft := fit_begin hfit now
    have HN := Lib.hid hN
    have HF := Lib.hid hF
    have HK := Lib.hid hL
    have hlen : (x.begin now).len = 0 := rfl
    have hd : (x.begin now).d = x.d := rfl
    clear hN hF hL hb h
    rw [← hd] at ho ⊢
    generalize x.begin now = X at *
    dsimp only
    have hk := fun p w h => d_feed p X.d b hft.d ho (by omega) w0 w (R := h)
    have hfs := feed_small (bitsIn b.data.toList) hft.d
    have hff := fits_feed (bitsIn b.data.toList) hft.d
    have hfl := feed_len (bitsIn b.data.toList) X.d
    have hbl := bitsIn_len b.data.toList
    have hbs : b.data.toList.length = b.size := by rw [Array.length_toList]; rfl
    generalize X.d.feed (bitsIn b.data.toList) = A at *
    obtain ⟨A1, l⟩ := A
    simp only [] at *
    have hfx : (X.setD A1).Fit := ⟨hft.e, hft.u, hff, hft.k⟩
    obtain ⟨n, hn⟩ : ∃ n, l.length = n := ⟨_, rfl⟩
    have hn6 : n ≤ 1000000 := by omega
    have hlen2 : (X.setD A1).len = 0 := hlen
    obtain ⟨Z, hZ⟩ : ∃ Z, l.foldl Tt.event (X.setD A1) = Z := ⟨_, rfl⟩
    rw [hZ]
    have HZ := Lib.hid hZ
    have HA := Lib.hid (And.intro hfx (And.intro hfs hlen2))
    have HNn := Lib.hid hn
    clear hlen hft hd hfit hfs hff hfl hbl hbs hfx hlen2 hs ho hn hZ
    go_enter Tryz.func20, Tryz.ntmps20
    go_upto_region 1 with fail
    generalize w.alloc _ = wa at *
    generalize w.heap.size = ga at *
    go_upto_region 2 with (go_at_call 41; refine hc.mono ?_; rintro r w5 ⟨e, u, c, p, rfl, h5⟩)
    clear hc h1
    obtain ⟨sv, tv, h6⟩ := h5.tt_open
    have c6 := h6.cell
    have hq := hk p w5 _ h6.f5
    clear hk
    go_wp2_with fail
    refine hq.mono ?_
    rintro r w7 ⟨v7, rfl, h7⟩
    clear hq h5 h6 c6
    have h8 : St w0 w7 (LAt TEv 2 Ev.cells v7 l * (TtAt t e u c p (X.setD A1) * (blk ga (.cells #[.slice none 0 0, .slice none 0 0] TRes (0, 0)) * R))) := (St.tt_shut (x := X.setD A1) (e := e) (u := u) (c := c) (p := p) (sv := sv) (tv := tv) (h7.eq (show _ = blk t _ * (EnAt e X.e * (UsAt u X.u * (CAt c X.c * (DeAt p A1 * (LAt 9 1 encS sv X.sent * (LAt TTold 2 tolC tv X.told * (LAt TEv 2 Ev.cells v7 l * (blk ga (.cells #[.slice none 0 0, .slice none 0 0] TRes (0, 0)) * R)))))))) by ac_rfl))).f2
    have sh := h8.l_shape
    rw [HNn.out] at sh
    obtain ⟨a, cap, rfl, hcap, hmax⟩ := sh
    have HH := Lib.hid h8
    clear h7 h8
    generalize X.setD A1 = Y at *
    go_wp2
    go_loopw [25] (fun s25 wr => ∃ i : Nat, i ≤ n ∧ s25 = .int .i64 i ∧ Hid (St w0 wr (LAt TEv 2 Ev.cells (.slice a n cap) l * (TtAt t e u c p ((l.take i).foldl Tt.event Y) * (blk ga (.cells #[.slice none 0 0, .slice none 0 0] TRes (0, 0)) * R))))) (fun s25 _ => n - (intOf s25).toNat)
    case atStart => exact ⟨0, by omega, rfl, HH⟩
    case round =>
      clear HH
      obtain ⟨i, hi, rfl, HI⟩ := hrel
      by_cases hlt : i < n
      · have hil : i < l.length := by have := HNn.out; omega
        obtain ⟨y, hy⟩ : ∃ y, l[i]? = some y := ⟨l[i], List.getElem?_eq_getElem hil⟩
        have htk : (l.take (i + 1)).foldl Tt.event Y = ((l.take i).foldl Tt.event Y).event y := by
          rw [List.take_add_one, hy, Option.toList_some, events_snoc]
        have hsm := HA.out.2.1 y (List.mem_of_getElem? hy)
        obtain ⟨s1, s2⟩ := fit_events (l.take i) HA.out.1
        have s3 : (l.take i).length = i := by rw [List.length_take]; omega
        have hl0 := HA.out.2.2
        generalize (l.take i).foldl Tt.event Y = z at *
        have hsz := Lib.hid (show z.Fit ∧ z.len ≤ 700000000000 from ⟨s1, by omega⟩)
        rcases HI.out.l_cells tyEv.len with ⟨h0, _⟩ | ⟨g, off, cap', hv, _, _, hcell⟩
        · rw [h0] at hil; exact absurd hil (by simp)
        · simp only [Value.slice.injEq] at hv
          obtain ⟨rfl, hq, rfl⟩ := hv
          clear hq
          have hce := hcell i y hy
          obtain ⟨kd, ls⟩ := y
          have d0 : wr.cell? ⟨g, off + i * 2, none⟩ = some (.int .i64 kd) := hce 0 _ rfl
          have d1 : wr.cell? ⟨g, off + i * 2 + 1, none⟩ = some (.string ⟨ls.toArray⟩) := hce 1 _ rfl
          have HT := Lib.hid htk
          have hss : (⟨ls.toArray⟩ : ByteArray).size ≤ 1000000 := by have h1 : ls.length ≤ 10000 := hsm; show ls.toArray.size ≤ _; rw [List.size_toArray]; omega
          have hev : z.event ⟨kd, ls⟩ = if kd = 0 then z.come ⟨ls.toArray⟩ else z := rfl
          rw [hev] at HT
          generalize (⟨ls.toArray⟩ : ByteArray) = so at *
          have hd := HI.out.alloc (.cells #[.int .i64 kd, .string so] TEv)
          clear htk hce hcell hy hil s1 s2 s3 hl0 hsm hev
          go_upto_region 7 with fail
          clear d0 d1
          generalize wr.alloc _ = w2 at *
          generalize wr.heap.size = gy at *
          have c2 := hd.cell
          by_cases k0 : kd = 0
          · have hs := t_come t e u c p z so hsz.out.1 hsz.out.2 hss w0 w2 _ (fun w' h => HN.out w' h.drop.drop.drop) (fun w' h => HF.out w' h.drop.drop.drop) (fun w' h => HK.out w' h.drop.drop.drop) (hd.eq (show _ = TtAt t e u c p z * (blk gy _ * (LAt TEv 2 Ev.cells (.slice (some ⟨g, off, none⟩) n cap) l * (blk ga (.cells #[.slice none 0 0, .slice none 0 0] TRes (0, 0)) * R))) by ac_rfl))
            rw [if_pos k0] at HT
            subst k0
            clear HI hd hss
            go_wp2_with fail
            refine hs.mono ?_
            rintro r w5 ⟨rfl, h5⟩
            have h6 := h5.f2.drop.f2
            clear c2 hs h5
            go_wp2
            go_roundw
            case rel =>
              refine ⟨i + 1, by omega, by go_num, Lib.hid ?_⟩
              rw [HT.out]
              exact h6
            case measure => simp [intOf]; omega
          · rw [if_neg k0] at HT
            have q0 : (kd == 0) = false := by simp [k0]
            have h6 := hd.drop
            clear HI hd hss k0
            go_wp2
            go_roundw
            case rel =>
              refine ⟨i + 1, by omega, by go_num, Lib.hid ?_⟩
              rw [HT.out]
              exact h6
            case measure => simp [intOf]; omega
      · obtain rfl : i = n := by omega
        have hz := HI.out.drop
        rw [List.take_of_length_le (by have := HNn.out; omega)] at hz
        clear HI
        rw [HZ.out] at hz
        obtain ⟨sv, tv, h1⟩ := hz.tt_open
        have s1 := (h1.eq (show _ = LAt 9 1 encS sv Z.sent * (LAt TTold 2 tolC tv Z.told * (blk t _ * (EnAt e Z.e * (UsAt u Z.u * (CAt c Z.c * (DeAt p Z.d * (blk ga _ * R))))))) by ac_rfl)).l_shape
        have s2 := (h1.eq (show _ = LAt TTold 2 tolC tv Z.told * (LAt 9 1 encS sv Z.sent * (blk t _ * (EnAt e Z.e * (UsAt u Z.u * (CAt c Z.c * (DeAt p Z.d * (blk ga _ * R))))))) by ac_rfl)).l_shape
        obtain ⟨ns, hns⟩ : ∃ n, Z.sent.length = n := ⟨_, rfl⟩
        obtain ⟨nt, hnt⟩ : ∃ n, Z.told.length = n := ⟨_, rfl⟩
        rw [hns] at s1
        rw [hnt] at s2
        obtain ⟨sa, sc, rfl, _, _⟩ := s1
        obtain ⟨ta, tc, rfl, _, _⟩ := s2
        have c1 := h1.cell
        have h2 := h1.eq (show _ = blk ga _ * (blk t _ * (EnAt e Z.e * (UsAt u Z.u * (CAt c Z.c * (DeAt p Z.d * (LAt 9 1 encS (.slice sa ns sc) Z.sent * (LAt TTold 2 tolC (.slice ta nt tc) Z.told * R))))))) by ac_rfl)
        have cg := h2.cell
        have fg := h2.free
        have h9 := (h2.set 0 (.slice sa ns sc)).set 1 (.slice ta nt tc)
        clear h1 h2 hz hns hnt
        go_wp2
        have c9 := h9.cell
        refine bodyPost_ret (v := .tuple #[.agg #[.slice sa ns sc, .slice ta nt tc], .int .i64 0]) (by simp [results, Tryz.results20, go_sem, c9]) rfl ⟨_, _, rfl, ?_⟩
        have h10 : St w0 _ (TtOff t Z * (LAt 9 1 encS (.slice sa ns sc) Z.sent * (LAt TTold 2 tolC (.slice ta nt tc) Z.told * R))) := St.off_shut (x := Z) (e := e) (u := u) (c := c) (p := p) (sv := .slice sa ns sc) (tv := .slice ta nt tc) h9.drop
        exact h10.b3
end Go.Proofs.YtnnahljdhdippaaGreatDoor

namespace Go.Proofs.YtnnahljdhdippaaGreatDoor
open Go.RowKit

theorem due_mem {c : Tms} {now : Int} {k : Key} (h : k ∈ dueK c now) : ∃ v, (k, v) ∈ c := by
  have h1 := (sortK_perm c _).mem_iff.1 h
  obtain ⟨p, hp, rfl⟩ := List.mem_map.1 h1
  exact ⟨p.2, (List.mem_filter.1 hp).1⟩
theorem due_keys {c : Tms} (h : Keys c) {now : Int} {k : Key} (hk : k ∈ dueK c now) : k = (0, 200) ∨ k = (0, 202) ∨ k = (0, 203) := by
  obtain ⟨v, hv⟩ := due_mem hk
  exact h.2 _ hv
theorem due_len {c : Tms} (now : Int) : (dueK c now).length ≤ c.length := by
  unfold dueK
  rw [(sortK_perm c _).length_eq, List.length_map]
  exact List.length_filter_le _ _
theorem overs_snoc (x : Tt) (l : List Key) (y : Key) : (l ++ [y]).foldl Tt.over x = (l.foldl Tt.over x).over y := by rw [List.foldl_append]; rfl
set_option maxRecDepth 100000 in
set_option maxHeartbeats 1600000 in
theorem t_tick (t : Nat) (x : Tt) (now : Int) (hfit : x.Fit) (w0 w : World) (R : HP) (hN : ∀ w', St w0 w' R → NamesAt w') (hF : ∀ w', St w0 w' R → FirstAt w') (hL : ∀ w', St w0 w' R → LinkAt w') (h : St w0 w (TtOff t x * R)) :
    Calls Tryz.prog 27 #[ptr t, .int .i64 now] w fun r w' => ∃ sv tv, r = .returned (.tuple #[.agg #[sv, tv], .int .i64 (x.tick now).2]) ∧ St w0 w' (LAt 9 1 encS sv (x.tick now).1.sent * (LAt TTold 2 tolC tv (x.tick now).1.told * (TtOff t (x.tick now).1 * R))) := by
  have h1 := h.alloc (.cells #[.slice none 0 0, .slice none 0 0] TRes)
  unfold Tt.tick
  by_cases hb : badNow now = true
  · rw [if_pos hb]
    have hc := t_begin_bad t x now hb w0 _ _ h1.f2
    go_enter Tryz.func27, Tryz.ntmps27
    go_upto_region 1 with fail
    generalize w.alloc _ = wa at *
    generalize w.heap.size = ga at *
    go_wp2_with fail
    refine hc.mono ?_
    rintro r w5 ⟨rfl, h5⟩
    clear hc h1
    have h6 := h5.f2
    have c6 := h6.cell
    have f6 := h6.free
    have h9 := (h6.set 0 (.slice none 0 0)).set 1 (.slice none 0 0)
    clear h5 h6
    go_wp2
    have c9 := h9.cell
    refine bodyPost_ret (v := .tuple #[.agg #[.slice none 0 0, .slice none 0 0], .int .i64 2]) (by simp [results, Tryz.results27, go_sem, c9]) rfl ⟨_, _, rfl, ?_⟩
    exact (h9.drop.l_nil TTold 2 tolC).l_nil 9 1 encS
  · rw [if_neg hb]
    have hb : badNow now = false := by simpa using hb
    have hc := t_begin t x now hb w0 _ _ h1.f2
    have hft := fit_begin hfit now
    have HN := Lib.hid hN
    have HF := Lib.hid hF
    have HK := Lib.hid hL
    have hlen : (x.begin now).len = 0 := rfl
    have hd : (x.begin now).c = x.c := rfl
    clear hN hF hL hb h
    rw [← hd]
    generalize x.begin now = X at *
    dsimp only
    have hk := fun c w h => c_due c X.c now w0 w (R := h)
    have hfs := fun k (h : k ∈ dueK X.c now) => due_keys hft.k h
    have hff := keys_left hft.k now
    have hfl := due_len (c := X.c) now
    have hkl := keys_len hft.k
    generalize dueK X.c now = l at *
    generalize leftK X.c now = A1 at *
    have hfx : (X.setC A1).Fit := ⟨hft.e, hft.u, hft.d, hff⟩
    obtain ⟨n, hn⟩ : ∃ n, l.length = n := ⟨_, rfl⟩
    have hn6 : n ≤ 3 := by omega
    have hlen2 : (X.setC A1).len = 0 := hlen
    obtain ⟨Z, hZ⟩ : ∃ Z, l.foldl Tt.over (X.setC A1) = Z := ⟨_, rfl⟩
    rw [hZ]
    have HZ := Lib.hid hZ
    have HA := Lib.hid (And.intro hfx (And.intro hfs hlen2))
    have HNn := Lib.hid hn
    have HKL := Lib.hid (show X.c.length ≤ 100000 by omega)
    clear hlen hft hd hfit hfs hff hfl hfx hlen2 hn hkl hZ
    go_enter Tryz.func27, Tryz.ntmps27
    go_upto_region 1 with fail
    generalize w.alloc _ = wa at *
    generalize w.heap.size = ga at *
    go_upto_region 2 with (go_at_call 41; refine hc.mono ?_; rintro r w5 ⟨e, u, c, p, rfl, h5⟩)
    clear hc h1
    obtain ⟨sv, tv, h6⟩ := h5.tt_open
    have c6 := h6.cell
    have hq := hk c w5 _ h6.f4 HKL.out
    clear hk
    go_wp2_with fail
    refine hq.mono ?_
    rintro r w7 ⟨v7, rfl, h7⟩
    clear hq h5 h6 c6
    have h8 : St w0 w7 (LAt 186 2 keyC v7 l * (TtAt t e u c p (X.setC A1) * (blk ga (.cells #[.slice none 0 0, .slice none 0 0] TRes (0, 0)) * R))) := (St.tt_shut (x := X.setC A1) (e := e) (u := u) (c := c) (p := p) (sv := sv) (tv := tv) (h7.eq (show _ = blk t _ * (EnAt e X.e * (UsAt u X.u * (CAt c A1 * (DeAt p X.d * (LAt 9 1 encS sv X.sent * (LAt TTold 2 tolC tv X.told * (LAt 186 2 keyC v7 l * (blk ga (.cells #[.slice none 0 0, .slice none 0 0] TRes (0, 0)) * R)))))))) by ac_rfl))).f2
    have sh := h8.l_shape
    rw [HNn.out] at sh
    obtain ⟨a, cap, rfl, hcap, hmax⟩ := sh
    have HH := Lib.hid h8
    clear h7 h8
    generalize X.setC A1 = Y at *
    go_wp2
    go_loopw [23] (fun s25 wr => ∃ i : Nat, i ≤ n ∧ s25 = .int .i64 i ∧ Hid (St w0 wr (LAt 186 2 keyC (.slice a n cap) l * (TtAt t e u c p ((l.take i).foldl Tt.over Y) * (blk ga (.cells #[.slice none 0 0, .slice none 0 0] TRes (0, 0)) * R))))) (fun s25 _ => n - (intOf s25).toNat)
    case atStart => exact ⟨0, by omega, rfl, HH⟩
    case round =>
      clear HH
      obtain ⟨i, hi, rfl, HI⟩ := hrel
      by_cases hlt : i < n
      · have hil : i < l.length := by have := HNn.out; omega
        obtain ⟨y, hy⟩ : ∃ y, l[i]? = some y := ⟨l[i], List.getElem?_eq_getElem hil⟩
        have htk : (l.take (i + 1)).foldl Tt.over Y = ((l.take i).foldl Tt.over Y).over y := by
          rw [List.take_add_one, hy, Option.toList_some, overs_snoc]
        have hsm := HA.out.2.1 y (List.mem_of_getElem? hy)
        obtain ⟨s1, s2⟩ := fit_overs (l.take i) HA.out.1
        have s3 : (l.take i).length = i := by rw [List.length_take]; omega
        have hl0 := HA.out.2.2
        generalize (l.take i).foldl Tt.over Y = z at *
        have hsz := Lib.hid (show z.Fit ∧ z.len ≤ 700000000000 from ⟨s1, by omega⟩)
        rcases HI.out.l_cells tyKey.len with ⟨h0, _⟩ | ⟨g, off, cap', hv, _, _, hcell⟩
        · rw [h0] at hil; exact absurd hil (by simp)
        · simp only [Value.slice.injEq] at hv
          obtain ⟨rfl, hq, rfl⟩ := hv
          clear hq
          have hce := hcell i y hy
          obtain ⟨ko, kt⟩ := y
          have d0 : wr.cell? ⟨g, off + i * 2, none⟩ = some (.int .i64 ko) := hce 0 _ rfl
          have d1 : wr.cell? ⟨g, off + i * 2 + 1, none⟩ = some (.int .i64 kt) := hce 1 _ rfl
          have HT := Lib.hid htk
          have hkt : kt = 200 ∨ kt = 202 ∨ kt = 203 := by
            simp only [Prod.mk.injEq] at hsm
            omega
          have hd := HI.out.alloc (.cells #[.int .i64 ko, .int .i64 kt] 186)
          clear htk hce hcell hy hil s1 s2 s3 hl0 hsm
          go_upto_region 7 with fail
          clear d0 d1
          generalize wr.alloc _ = w2 at *
          generalize wr.heap.size = gy at *
          have c2 := hd.cell
          obtain ⟨sv, tv, h1⟩ := (hd.eq (show _ = TtAt t e u c p z * (blk gy _ * (LAt 186 2 keyC (.slice (some ⟨g, off, none⟩) n cap) l * (blk ga (.cells #[.slice none 0 0, .slice none 0 0] TRes (0, 0)) * R))) by ac_rfl)).tt_open
          by_cases k0 : kt = 202
          · have hz : z.over (ko, kt) = (z.setU z.u.timeout.1).users z.u.timeout.2 := by unfold Tt.over; rw [if_pos k0]
            rw [hz] at HT
            have fu := hsz.out.1.u
            obtain ⟨fa, fb⟩ := us_timeout fu
            have ln := us_timeout_len z.u
            have hfx := fit_setU hsz.out.1 fa
            have hq := u_timeout u z.u w0 w2 _ h1.f3 (by have h1 := fu.t0; have h2 := fu.tm; have h3 := fu.m32; omega)
            have c3 := h1.cell
            generalize z.u.timeout = A at *
            obtain ⟨A1, A2⟩ := A
            simp only [] at *
            have HB := Lib.hid (And.intro fb (And.intro hfx ln))
            subst k0
            clear HI hd hkt hz fa fb ln hfx fu
            go_wp2_with fail
            refine hq.mono ?_
            rintro r wb ⟨vb, rfl, hb⟩
            clear hq h1 c2 c3
            have hb2 : St w0 wb (LAt TUe 5 Ue.cells vb A2 * (TtAt t e u c p (z.setU A1) * (blk gy _ * (LAt 186 2 keyC (.slice (some ⟨g, off, none⟩) n cap) l * (blk ga (.cells #[.slice none 0 0, .slice none 0 0] TRes (0, 0)) * R))))) := (St.tt_shut (x := z.setU A1) (e := e) (u := u) (c := c) (p := p) (sv := sv) (tv := tv) (hb.eq (show _ = blk t _ * (EnAt e z.e * (UsAt u A1 * (CAt c z.c * (DeAt p z.d * (LAt 9 1 encS sv z.sent * (LAt TTold 2 tolC tv z.told * (LAt TUe 5 Ue.cells vb A2 * (blk gy _ * (LAt 186 2 keyC (.slice (some ⟨g, off, none⟩) n cap) l * (blk ga (.cells #[.slice none 0 0, .slice none 0 0] TRes (0, 0)) * R)))))))))) by ac_rfl))).f2
            have hs := t_users t e u c p (z.setU A1) vb A2 HB.out.1 HB.out.2.1 (by have := HB.out.2.2; omega) (by have h1 := HB.out.2.2; have h2 := hsz.out.2; show z.len + 100000 * A2.length ≤ _; omega) w0 wb _ (fun w' h => HN.out w' h.drop.drop.drop) (fun w' h => HF.out w' h.drop.drop.drop) (fun w' h => HK.out w' h.drop.drop.drop) hb2
            clear hb hb2
            go_wp2_with fail
            refine hs.mono ?_
            rintro r wc ⟨rfl, hc⟩
            have h6 := hc.drop.f2.drop.f2
            clear hs hc
            go_wp2
            go_roundw
            case rel =>
              refine ⟨i + 1, by omega, by go_num, Lib.hid ?_⟩
              rw [HT.out]
              exact h6
            case measure => simp [intOf]; omega
          · have hz : z.over (ko, kt) = (z.setE (z.e.timeout kt).1).links (z.e.timeout kt).2 := by unfold Tt.over; rw [if_neg k0]
            rw [hz] at HT
            have fe := hsz.out.1.e
            obtain ⟨fa, fb⟩ := fit_timeout fe kt
            have ln := timeout_len z.e (out0 fe) kt
            have hfx := fit_setE hsz.out.1 fa
            have lt := fe.wd.t
            have hq := e_timeout e z.e kt fe.ok.b.fl (by omega) (by rcases hkt with rfl | rfl | rfl; exact kok _ (by decide) (by decide); exact kok _ (by decide) (by decide); exact kok _ (by decide) (by decide)) (by have h1 := fe.ok.b.tr0; have h2 := fe.ok.b.trm; have h3 := fe.ok.b.m32; omega) (by rw [fe.out]; decide) w0 w2.drew _ h1.drew.f2
            have q0 : (kt == 202) = false := by simp [k0]
            have e1 : w2.drew.cell? ⟨t, 6, none⟩ = some (ptr e) := (h1.drew.cell 6).trans rfl
            have e2 : w2.drew.cell? ⟨gy, 1, none⟩ = some (.int .i64 kt) := (hd.drew.cell 1).trans rfl
            generalize z.e.timeout kt = A at *
            obtain ⟨A1, A2⟩ := A
            simp only [] at *
            have HB := Lib.hid (And.intro (And.intro fb lt) (And.intro hfx ln))
            clear HI hd hkt hz fa fb ln hfx fe lt k0
            go_upto_region 9 with fail
            refine wp_region_held_drew (S := fun wx => wx.cell? ⟨t, 6, none⟩ = some (ptr e) ∧ wx.cell? ⟨gy, 1, none⟩ = some (.int .i64 kt)) (by kernel_rfl) ⟨e1, e2⟩ (fun hHeld => ?_)
            clear e1 e2 c2 h1 q0
            generalize w2.drew = wd at *
            refine wpAnyH_take (i := 0) (oi := { dst := some 37, op := Op.move (Operand.tmp 0), type := 30, pos := "terminal.go:183", after := #[], guard := none }) (v := ?_) rfl (by kernel_rfl) (by kernel_rfl) (by kernel_rfl) (fun _ _ _ h => h) (Or.inl ⟨by rfl, ?_⟩) (by assumption) ?_
            rotate_left 1
            · intro w hSw
              try dsimp only at hSw
              go_simp
              try with_reducible rfl
            try simp only [Act.put, List.setIfInBounds_toArray, List.set_cons_zero, List.set_cons_succ]
            refine wpAnyH_take (i := 1) (oi := { dst := some 38, op := Op.move (Operand.tmp 0), type := 30, pos := "terminal.go:183", after := #[], guard := none }) (v := ?_) rfl (by kernel_rfl) (by kernel_rfl) (by kernel_rfl) (fun _ _ _ h => h) (Or.inl ⟨by rfl, ?_⟩) (by assumption) ?_
            rotate_left 1
            · intro w hSw
              try dsimp only at hSw
              go_simp
              try with_reducible rfl
            try simp only [Act.put, List.setIfInBounds_toArray, List.set_cons_zero, List.set_cons_succ]
            refine wpAnyH_take (i := 2) (oi := { dst := some 39, op := Op.nilCheck (Operand.tmp 38), type := 0, pos := "terminal.go:183", after := #[{ on := 1, ground := Ground.data }], guard := none }) (v := ?_) rfl (by kernel_rfl) (by kernel_rfl) (by kernel_rfl) (fun _ _ _ h => h) (Or.inl ⟨by rfl, ?_⟩) (by assumption) ?_
            rotate_left 1
            · intro w hSw
              try dsimp only at hSw
              go_simp
              try with_reducible rfl
            try simp only [Act.put, List.setIfInBounds_toArray, List.set_cons_zero, List.set_cons_succ]
            refine wpAnyH_take (i := 3) (oi := { dst := some 40, op := Op.fieldAddr 107 (Operand.tmp 39) 1, type := 0, pos := "terminal.go:183", after := #[{ on := 2, ground := Ground.data }], guard := none }) (v := ?_) rfl (by kernel_rfl) (by kernel_rfl) (by kernel_rfl) (fun _ _ _ h => h) (Or.inl ⟨by rfl, ?_⟩) (by assumption) ?_
            rotate_left 1
            · intro w hSw
              try dsimp only at hSw
              go_simp
              try with_reducible rfl
            try simp only [Act.put, List.setIfInBounds_toArray, List.set_cons_zero, List.set_cons_succ]
            refine wpAnyH_take (i := 4) (oi := { dst := some 41, op := Op.load 98 (Operand.tmp 40), type := 98, pos := "terminal.go:183", after := #[{ on := 3, ground := Ground.data }], guard := none }) (v := ?_) rfl (by kernel_rfl) (by kernel_rfl) (by kernel_rfl) (fun _ _ _ h => h) (Or.inl ⟨by rfl, ?_⟩) (by assumption) ?_
            rotate_left 1
            · intro w hSw
              try dsimp only at hSw
              go_simp
              try with_reducible rfl
            try simp only [Act.put, List.setIfInBounds_toArray, List.set_cons_zero, List.set_cons_succ]
            refine wpAnyH_take (i := 5) (oi := { dst := some 42, op := Op.fieldAddr 186 (Operand.tmp 8) 1, type := 0, pos := "terminal.go:183", after := #[], guard := none }) (v := ?_) rfl (by kernel_rfl) (by kernel_rfl) (by kernel_rfl) (fun _ _ _ h => h) (Or.inl ⟨by rfl, ?_⟩) (by assumption) ?_
            rotate_left 1
            · intro w hSw
              try dsimp only at hSw
              go_simp
              try with_reducible rfl
            try simp only [Act.put, List.setIfInBounds_toArray, List.set_cons_zero, List.set_cons_succ]
            refine wpAnyH_take (i := 6) (oi := { dst := some 43, op := Op.load 3 (Operand.tmp 42), type := 3, pos := "terminal.go:183", after := #[{ on := 5, ground := Ground.data }], guard := none }) (v := ?_) rfl (by kernel_rfl) (by kernel_rfl) (by kernel_rfl) (fun _ _ _ h => h) (Or.inl ⟨by rfl, ?_⟩) (by assumption) ?_
            rotate_left 1
            · intro w hSw
              try dsimp only at hSw
              go_simp
              try with_reducible rfl
            try simp only [Act.put, List.setIfInBounds_toArray, List.set_cons_zero, List.set_cons_succ]
            refine wpAnyH_ready (rs := [7]) (by kernel_rfl) (by simp) ?_
            refine AllReadyH.cons (o := { dst := some 44, op := Op.call { callee := Callee.value (Operand.func 66), args := #[Operand.tmp 41, Operand.tmp 43], argTypes := #[98, 3] }, type := 131, pos := "terminal.go:183", after := #[{ on := 4, ground := Ground.data }, { on := 6, ground := Ground.data }], guard := none }) rfl (fun K hK => ?_) ?_
            rotate_left 1
            · exact AllReadyH.nil
            go_simp
            go_at_call 66
            refine hq.mono ?_
            rintro r wb ⟨vb, rfl, hb⟩
            have cb := hb.eq (show _ = blk t (.cells (z.cells e u c p sv tv) TTt (0, 0)) * (blk gy (.cells #[.int .i64 ko, .int .i64 kt] 186 (0, 0)) * (LAt TFx 11 Fx.cells vb A2 * (EnAt e A1 * (UsAt u z.u * (CAt c z.c * (DeAt p z.d * (LAt 9 1 encS sv z.sent * (LAt TTold 2 tolC tv z.told * (LAt 186 2 keyC (.slice (some ⟨g, off, none⟩) n cap) l * (blk ga (.cells #[.slice none 0 0, .slice none 0 0] TRes (0, 0)) * R)))))))))) by ac_rfl)
            clear hb hq
            have hb : St w0 wb (LAt TFx 11 Fx.cells vb A2 * (TtAt t e u c p (z.setE A1) * (blk gy (.cells #[.int .i64 ko, .int .i64 kt] 186 (0, 0)) * (LAt 186 2 keyC (.slice (some ⟨g, off, none⟩) n cap) l * (blk ga (.cells #[.slice none 0 0, .slice none 0 0] TRes (0, 0)) * R))))) := (St.tt_shut (x := z.setE A1) (e := e) (u := u) (c := c) (p := p) (sv := sv) (tv := tv) (cb.eq (show _ = blk t (.cells (z.cells e u c p sv tv) TTt (0, 0)) * (EnAt e A1 * (UsAt u z.u * (CAt c z.c * (DeAt p z.d * (LAt 9 1 encS sv z.sent * (LAt TTold 2 tolC tv z.told * (LAt TFx 11 Fx.cells vb A2 * (blk gy (.cells #[.int .i64 ko, .int .i64 kt] 186 (0, 0)) * (LAt 186 2 keyC (.slice (some ⟨g, off, none⟩) n cap) l * (blk ga (.cells #[.slice none 0 0, .slice none 0 0] TRes (0, 0)) * R)))))))))) by ac_rfl))).f2
            have hs := t_links t e u c p (z.setE A1) vb A2 z.e.tei (.inl HB.out.1.1) HB.out.1.2 HB.out.2.1 HB.out.2.2 (by have h2 := hsz.out.2; show z.len ≤ _; omega) w0 wb _ (fun w' h => HN.out w' h.drop.drop.drop) (fun w' h => HF.out w' h.drop.drop.drop) (fun w' h => HK.out w' h.drop.drop.drop) hb
            clear hb
            go_simp
            refine hK.out _ _ ⟨(cb.cell 6).trans rfl, (cb.f2.cell 1).trans rfl⟩ (fun hHeld => ?_)
            clear hK K
            try simp only [Act.put, List.setIfInBounds_toArray, List.set_cons_zero, List.set_cons_succ]
            clear cb
            refine wpAnyH_ready (rs := [8]) (by kernel_rfl) (by simp) ?_
            refine AllReadyH.cons (o := { dst := some 45, op := Op.call { callee := Callee.value (Operand.func 43), args := #[Operand.tmp 37, Operand.tmp 44], argTypes := #[30, 131] }, type := 0, pos := "terminal.go:183", after := #[{ on := 0, ground := Ground.data }, { on := 7, ground := Ground.data }, { on := 7, ground := Ground.chain }], guard := none }) rfl (fun K hK => ?_) ?_
            rotate_left 1
            · exact AllReadyH.nil
            go_simp
            go_at_call 43
            refine hs.mono ?_
            rintro r wc ⟨rfl, hb⟩
            clear hs
            have hz := hb.drop
            obtain ⟨sv2, tv2, hc⟩ := hz.tt_open
            go_simp
            refine hK.out _ _ ⟨(hc.cell 6).trans rfl, (hz.f2.cell 1).trans rfl⟩ (fun hHeld => ?_)
            clear hK K
            try simp only [Act.put, List.setIfInBounds_toArray, List.set_cons_zero, List.set_cons_succ]
            refine wpAnyH_done (by kernel_rfl) ?_ _
            have h6 := hz.f2.drop.f2
            clear hb hc hz hHeld
            go_wp2
            go_roundw
            case rel =>
              refine ⟨i + 1, by omega, by go_num, Lib.hid ?_⟩
              rw [HT.out]
              exact h6
            case measure => simp [intOf]; omega
      · obtain rfl : i = n := by omega
        have hz := HI.out.drop
        rw [List.take_of_length_le (by have := HNn.out; omega)] at hz
        clear HI
        rw [HZ.out] at hz
        obtain ⟨sv, tv, h1⟩ := hz.tt_open
        have s1 := (h1.eq (show _ = LAt 9 1 encS sv Z.sent * (LAt TTold 2 tolC tv Z.told * (blk t _ * (EnAt e Z.e * (UsAt u Z.u * (CAt c Z.c * (DeAt p Z.d * (blk ga _ * R))))))) by ac_rfl)).l_shape
        have s2 := (h1.eq (show _ = LAt TTold 2 tolC tv Z.told * (LAt 9 1 encS sv Z.sent * (blk t _ * (EnAt e Z.e * (UsAt u Z.u * (CAt c Z.c * (DeAt p Z.d * (blk ga _ * R))))))) by ac_rfl)).l_shape
        obtain ⟨ns, hns⟩ : ∃ n, Z.sent.length = n := ⟨_, rfl⟩
        obtain ⟨nt, hnt⟩ : ∃ n, Z.told.length = n := ⟨_, rfl⟩
        rw [hns] at s1
        rw [hnt] at s2
        obtain ⟨sa, sc, rfl, _, _⟩ := s1
        obtain ⟨ta, tc, rfl, _, _⟩ := s2
        have c1 := h1.cell
        have h2 := h1.eq (show _ = blk ga _ * (blk t _ * (EnAt e Z.e * (UsAt u Z.u * (CAt c Z.c * (DeAt p Z.d * (LAt 9 1 encS (.slice sa ns sc) Z.sent * (LAt TTold 2 tolC (.slice ta nt tc) Z.told * R))))))) by ac_rfl)
        have cg := h2.cell
        have fg := h2.free
        have h9 := (h2.set 0 (.slice sa ns sc)).set 1 (.slice ta nt tc)
        clear h1 h2 hz hns hnt
        go_wp2
        have c9 := h9.cell
        refine bodyPost_ret (v := .tuple #[.agg #[.slice sa ns sc, .slice ta nt tc], .int .i64 0]) (by simp [results, Tryz.results27, go_sem, c9]) rfl ⟨_, _, rfl, ?_⟩
        have h10 : St w0 _ (TtOff t Z * (LAt 9 1 encS (.slice sa ns sc) Z.sent * (LAt TTold 2 tolC (.slice ta nt tc) Z.told * R))) := St.off_shut (x := Z) (e := e) (u := u) (c := c) (p := p) (sv := .slice sa ns sc) (tv := .slice ta nt tc) h9.drop
        exact h10.b3
end Go.Proofs.YtnnahljdhdippaaGreatDoor
