/- ClockOver: the walk. -/
import Derived.Test.YtbnbknabedgpcaaWClockParts
namespace Go.Proofs.Ytbnbknabedgpcaa
open Go.RowKit Go.Sort

/-- how many entries a map has -/
def mapSize (w : World) (b : Nat) : Nat :=
  match w.heap[b]? with
  | some (.map es _) => es.size
  | _ => 0
theorem St.map_size {w0 w : World} {R : HP} {b : Nat} {l : Tms} (h : St w0 w (MAt kKey vInt b l * R)) : mapSize w b = l.length := by
  obtain ⟨_, es, clock, hm, hs⟩ := h.map
  unfold mapSize
  rw [hs.heap]
  exact hm.size

theorem mput_mem'' {k : Key} {v : Int} {p : Key × Int} : ∀ {l : Tms}, p ∈ mput l k v → p ∈ l ∨ p = (k, v)
  | [], h => by simp [mput] at h; exact .inr h
  | q :: l, h => by
    rw [mput_cons] at h
    split at h
    · simp at h; rcases h with h | h
      · exact .inr h
      · exact .inl (by simp [h])
    · simp at h; rcases h with h | h
      · exact .inl (by simp [h])
      · rcases mput_mem'' h with h | h
        · exact .inl (by simp [h])
        · exact .inr h

/-- timers as they are behind a script -/
structure Over (l : Tms) (last : Int) : Prop where
  low : ∀ p ∈ l, last < p.2 ∧ 1 ≤ p.2 ∧ p.2 ≤ 18014398509481984
theorem Over.nil (n : Int) : Over [] n := ⟨by simp⟩
theorem Over.start {l : Tms} (h : Over l (-1)) (k : Key) (n p : Int) (hb : badStart n p = false) : Over (mput l k (n + p)) (-1) := by
  refine ⟨fun q hq => ?_⟩
  unfold badStart at hb
  simp only [decide_eq_false_iff_not, not_or] at hb
  rcases mput_mem'' hq with hq | rfl
  · exact h.low q hq
  · simp only []; omega
theorem Over.next {l : Tms} {last n : Int} (h : Over l last) : Over (leftK l n) n := by
  refine ⟨fun q hq => ?_⟩
  obtain ⟨h1, h2⟩ := List.mem_filter.1 hq
  have := h.low q h1
  simp at h2
  omega

theorem early_none {l : Tms} {n : Int} (hall : ∀ p ∈ l, n ≤ p.2) : dueK l (n - 1) = [] ∧ leftK l (n - 1) = l := by
  constructor
  · have : (l.filter fun p => decide (p.2 ≤ n - 1)) = [] := by
      rw [List.filter_eq_nil_iff]
      intro p hp
      have := hall p hp
      simp
      omega
    unfold dueK
    rw [this]
    simp [sortK]
  · unfold leftK
    rw [List.filter_eq_self]
    intro p hp
    have := hall p hp
    simp
    omega

set_option maxRecDepth 100000 in
set_option maxHeartbeats 1600000 in
theorem ClockOver.walk (a0 : Option Addr) (len0 cap0 : Nat) (w : World) (w0 : (Sh.slice CkSh).ok w [.slice a0 len0 cap0]) :
    Calls Try.prog 4 #[.slice a0 len0 cap0] w fun e w' => e = .returned (.bool true) ∧ Below w.heap.size w w' := by
  obtain ⟨l1, l2, l3⟩ := ck_script w0
  unfold maxLen at l2
  have hmm := @run_makeMap Try.prog
  clear w0
  go_enter Try.func4, Try.ntmps4
  go_wp2_with fail
  refine (c_new _ _ _ (St.start w)).mono ?_
  rintro e w2 ⟨ca, rfl, h2⟩
  have h5 := (h2.map_new kKey vInt).f2
  go_upto_region 3 with fail
  generalize w2.alloc _ = wz at *
  generalize w2.heap.size = tb at *
  clear h2
  go_upto_region 3 with fail
  go_cut [23, 24, 25] (fun s33 s34 s35 wx => ∃ m : Nat, m ≤ len0 ∧ m ≤ 100 ∧ s33 = .slice a0 m cap0 ∧ s34 = .int .i64 m ∧ s35 = .int .i64 0 ∧ wz = wx)
  case first =>
    go_wp2
    all_goals (go_meet; first | exact ⟨len0, Nat.le_refl _, by omega, rfl, rfl, rfl, rfl⟩ | exact ⟨100, by omega, by omega, rfl, rfl, rfl, rfl⟩ | (refine ⟨(min (len0 : Int) 100).toNat, by omega, by omega, ?_, ?_, rfl, rfl⟩ <;> (first | rfl | (congr 1; omega) | trace_state)))
  case rest =>
    obtain ⟨m, hm, hm100, rfl, rfl, rfl, rfl⟩ := hcut
    go_wp2
    go_loopw [25] (fun i wr => ∃ (k : Nat) (l : Tms), k ≤ m ∧ i = .int .i64 k ∧ l.length ≤ k ∧ Hid (Over l (-1)) ∧ St w wr (CAt ca l * (MAt kKey vInt tb l * Old w))) (fun i _ => m - (intOf i).toNat)
    case atStart => exact ⟨0, [], by omega, rfl, by simp, Lib.hid (Over.nil _), h5⟩
    case round =>
      clear h5
      obtain ⟨k, l, hk, rfl, hlen, HO, h6⟩ := hrel
      by_cases hlt : k < m
      · obtain ⟨b, off, rfl, hb, hi⟩ := l3 (by omega)
        obtain ⟨x, xok, c0, c1, c2, c3, c4⟩ := hi k (by omega)
        obtain ⟨xd, xo, xt, xn, xp⟩ := x
        simp only [] at c0 c1 c2 c3 c4
        have hbel := (h6.drop.drop).old0
        have d0 := (hbel.cell (p := ⟨b, off + k * 5, none⟩) hb).trans c0
        have d1 := (hbel.cell (p := ⟨b, off + k * 5 + 1, none⟩) hb).trans c1
        have d2 := (hbel.cell (p := ⟨b, off + k * 5 + 2, none⟩) hb).trans c2
        have d3 := (hbel.cell (p := ⟨b, off + k * 5 + 3, none⟩) hb).trans c3
        have d4 := (hbel.cell (p := ⟨b, off + k * 5 + 4, none⟩) hb).trans c4
        clear hi l3 c0 c1 c2 c3 c4 hbel
        have hk2 := xok.1
        simp only [] at hk2
        have h7 := (h6.alloc (.cells #[.int .i64 xd, .int .i64 xo, .int .i64 xt, .int .i64 xn, .int .i64 xp] 41)).alloc (.cells #[.int .i64 xo, .int .i64 xt] 43)
        simp only [World.size_alloc] at h7
        have hl' := mput_length l (xo, xt) (xn + xp)
        cases hbs : badStart xn xp with
        | true =>
          have e : cstart l (xo, xt) xn xp = (l, 2) := by unfold cstart; rw [if_pos hbs]
          have E := Lib.hid e
          clear hbs e
          go_wp2_with fail
          refine (c_start_to h7.f3 hk2 E.out).mono ?_
          rintro e w5 ⟨rfl, h8⟩
          clear h7 h6 d0 d1 d2 d3 d4
          go_wp2
          go_roundw
          case rel => exact ⟨k + 1, l, by omega, by go_num, by omega, HO, h8.f2.drop.f2.drop⟩
          case measure => simp [intOf]; omega
        | false =>
          have e : cstart l (xo, xt) xn xp = (mput l (xo, xt) (xn + xp), 0) := by unfold cstart; rw [if_neg (by simp [hbs])]
          have HO2 := Lib.hid (HO.out.start (xo, xt) xn xp hbs)
          unfold badStart at hbs
          simp only [decide_eq_false_iff_not, not_or] at hbs
          have hw : IntKind.i64.wrap (xn + xp) = xn + xp := by rw [IntKind.wrap_i64]; omega
          obtain ⟨b1, b2, b3, b4⟩ := hbs
          have E := Lib.hid e
          clear e b1 b2 b3 b4
          go_wp2_with fail
          refine (c_start_to h7.f3 hk2 E.out).mono ?_
          rintro e w5 ⟨rfl, h8⟩
          have k8 := h8.f2.cell
          have a8 := h8.f3.cell
          clear h7 h6 d0 d1 d2 d3 d4
          go_wp2_with (at_mapUpdate; refine wp_mput rfl (.tmp 42) (.tmp 43) (.tmp 48) 39 rfl tyTill h8.f4 rfl (xo, xt) rfl hk2 (xn + xp) rfl ?_; intro w6 h9)
          go_roundw
          case rel => exact ⟨k + 1, mput l (xo, xt) (xn + xp), by omega, by go_num, by omega, HO2, h9.f3.drop.f3.drop.f2⟩
          case measure => simp [intOf]; omega
      · obtain rfl : k = m := by omega
        have hl100 : l.length ≤ 100 := by omega
        clear hlen hlt hm hm100 hk l3
        go_wp2
        go_loopw [8] (fun s8 wr => ∃ (l : Tms) (last : Int), s8 = .int .i64 last ∧ l.length ≤ 100 ∧ Hid (Over l last) ∧ St w wr (CAt ca l * (MAt kKey vInt tb l * Old w))) (fun _ wr => mapSize wr tb)
        case atStart => exact ⟨l, -1, rfl, hl100, HO, h6⟩
        case round =>
          clear h6 hl100 HO
          obtain ⟨l, last, rfl, hl100, HO, h7⟩ := hrel
          have hms := h7.f2.map_size
          have hnd := h7.f2.map_nodup
          go_wp2_with fail
          refine (c_next ca l _ _ _ h7).mono ?_
          rintro e w5 ⟨n, ok, rfl, hN, h8⟩
          rcases hN with ⟨rfl, rfl, rfl⟩ | ⟨rfl, hex, hall⟩
          · have hln := h8.f2.map_len tyTill.ht
            clear h7 hms hnd HO
            go_wp2_with fail
            refine (ck_wakes _ _ _ h8).mono ?_
            rintro e w6 ⟨rfl, h9⟩
            have hln : ∀ ty, (Builtin.len_ #[39] ty #[.map (some tb)]).run Try.prog w6 = .ok (.int .i64 0) w6 := fun ty => h9.f2.map_len tyTill.ht ty
            go_wp2
            go_ret
            exact ⟨rfl, h9.drop.drop.old0⟩
          · obtain ⟨e1, e2⟩ := early_none hall
            obtain ⟨p, hp, hpn⟩ := hex
            obtain ⟨low1, low2, low3⟩ := HO.out.low p hp
            rw [hpn] at low1 low2 low3
            have HO2 := Lib.hid (HO.out.next (n := n))
            have hne : dueK l n ≠ [] := by
              intro h
              have : p.1 ∈ dueK l n := (mem_due hnd).2 ⟨p.2, hp, by omega⟩
              rw [h] at this
              simp at this
            have hat : ∀ k ∈ dueK l n, (k, n) ∈ l := by
              intro k hk
              obtain ⟨t, h1, h2⟩ := (mem_due hnd).1 hk
              have := hall _ h1
              simp only [] at this
              have : t = n := by omega
              rw [← this]; exact h1
            have hdn := due_nodup hnd n
            have hgd := gone_due hnd n
            have hlt : (leftK l n).length < l.length := by
              refine List.length_filter_lt_length_iff_exists.2 ⟨p, hp, by simp; omega⟩
            have hdl := due_len (l := l) n
            have E1 := Lib.hid e1
            have E2 := Lib.hid e2
            have HAT := Lib.hid hat
            have HND := Lib.hid hnd
            have HDN := Lib.hid hdn
            have HGD := Lib.hid hgd
            have HMS := Lib.hid hms
            clear e1 e2 hall hp hpn h7 hat hnd hdn hgd hms
            go_wp2_with fail
            refine (c_due ca _ (n - 1) _ _ _ h8 (by omega)).mono ?_
            rintro e w6 ⟨v1, rfl, h9⟩
            rw [E1.out, E2.out] at h9
            obtain ⟨av1, cp1, rfl, _, _⟩ := h9.l_shape
            have h10 := h9.drop
            clear h8 h9
            go_wp2_with fail
            refine (c_due ca _ n _ _ _ h10 (by omega)).mono ?_
            rintro e w7 ⟨v2, rfl, h11⟩
            generalize hks : dueK l n = ks at *
            have HKS := Lib.hid hks
            clear hks h10
            obtain ⟨av2, cap2, rfl, _, _⟩ := h11.l_shape
            obtain ⟨q, hq⟩ : ∃ q, ks.length = q := ⟨_, rfl⟩
            have hq0 : 0 < q := by cases ks with | nil => exact absurd rfl hne | cons _ _ => simp at hq; omega
            have hq1 : ((q : Int) == 0) = false := by simp; omega
            rw [hq] at hdl ⊢
            have h12 := h11.f3
            rw [hq] at h12
            have hg0 : gone l [] = l := by simp [gone]
            have h12 : St w w7 (MAt kKey vInt tb (gone l (ks.take 0)) * (LAt 43 2 keyC (.slice av2 q cap2) ks * (CAt ca (leftK l n) * Old w))) := by rw [List.take_zero, hg0]; exact h12
            clear h11 hne hg0
            have hqq : q ≤ 100 := by omega
            go_wp2
            go_loopw [77] (fun i wr => ∃ j : Nat, j ≤ q ∧ i = .int .i64 j ∧ St w wr (MAt kKey vInt tb (gone l (ks.take j)) * (LAt 43 2 keyC (.slice av2 q cap2) ks * (CAt ca (leftK l n) * Old w)))) (fun i _ => q - (intOf i).toNat)
            case atStart =>
              exact ⟨0, by omega, rfl, h12⟩
            case round =>
              clear h12
              obtain ⟨j, hj, rfl, h13⟩ := hrel
              by_cases hlt2 : j < q
              · obtain ⟨⟨y1, y2⟩, hy⟩ : ∃ y, ks[j]? = some y := ⟨_, List.getElem?_eq_getElem (by omega)⟩
                have hyl := HAT.out _ (List.mem_of_getElem? hy)
                have ht : ks.take (j + 1) = ks.take j ++ [(y1, y2)] := by rw [List.take_add_one, hy]; rfl
                have hnot : (y1, y2) ∉ ks.take j := by
                  have h1 := HDN.out
                  rw [← List.take_append_drop (j + 1) ks, ht, List.nodup_append] at h1
                  have h2 := (List.nodup_append.1 h1.1).2.2
                  intro hm
                  exact h2 _ hm _ (by simp) rfl
                have hok := h13.map.1
                have hmem : ((y1, y2), n) ∈ gone l (ks.take j) := by
                  unfold gone
                  rw [List.mem_filter]
                  exact ⟨hyl, by simpa using hnot⟩
                have hyo : okK (y1, y2) := hok _ hmem
                have hgn : ((gone l (ks.take j)).map (·.1)).Nodup := (List.filter_sublist.map _).nodup HND.out
                have hlk : mlook (gone l (ks.take j)) (y1, y2) = some n := by
                  obtain ⟨i, hi, e⟩ := List.getElem_of_mem hmem
                  exact mlook_at hgn (j := i) (by rw [List.getElem?_eq_getElem hi, e])
                rcases h13.f2.l_cells tyKey.len with ⟨h0, _⟩ | ⟨g1, off1, cp1, hv1, _, _, hc1⟩
                · rw [h0] at hq; simp at hq; omega
                simp only [Value.slice.injEq] at hv1
                obtain ⟨rfl, hqk, rfl⟩ := hv1
                clear hqk
                have d0 : wr.cell? ⟨g1, off1 + j * 2, none⟩ = some (.int .i64 y1) := hc1 j _ hy 0 _ rfl
                have d1 : wr.cell? ⟨g1, off1 + j * 2 + 1, none⟩ = some (.int .i64 y2) := hc1 j _ hy 1 _ rfl
                have h14 := h13.alloc (.cells #[.int .i64 y1, .int .i64 y2] 43)
                have hl := h14.f2.till_ok (y1, y2) hyo
                rw [hlk] at hl
                simp only [Option.getD_some, Option.isSome_some] at hl
                have h15 := h14.f2
                have HT := Lib.hid ht
                clear hc1 hy hlk hmem hok hgn hnot hyl h13 h14 ht hq hdl hq0 hq1 hl100 hlt low1 low2 low3 hmm
                go_wp2_with (at_delete; refine wp_mdel rfl (.tmp 94) (.tmp 95) 39 43 rfl tyTill h15 rfl (y1, y2) rfl hyo ?_; intro w8 h16)
                go_roundw
                case rel =>
                  refine ⟨j + 1, by omega, by go_num, ?_⟩
                  rw [HT.out, ← gone_snoc HND.out]
                  exact h16.f2.drop
                case measure => simp [intOf]; omega
              · obtain rfl : j = q := by omega
                rw [← hq, List.take_length, HGD.out] at h13
                have h14 := h13.f2.drop.f2
                have hm2 := h14.f2.map_size
                have HM2 := Lib.hid hm2
                clear h13 hm2
                go_wp2
                go_roundw
                case rel => exact ⟨leftK l n, n, rfl, by omega, HO2, h14⟩
                case measure => rw [HM2.out, HMS.out]; exact hlt
end Go.Proofs.Ytbnbknabedgpcaa
