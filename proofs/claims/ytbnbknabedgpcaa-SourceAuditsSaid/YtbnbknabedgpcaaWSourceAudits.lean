/- SourceAudits: the walk. -/
import Derived.Test.YtbnbknabedgpcaaAudits
namespace Go.Proofs.Ytbnbknabedgpcaa
open Go.RowKit

abbrev vNum (t : Int) : Value := .int .i64 t
theorem tyCnt : MTy Try.prog 72 3 3 kInt :=
  ⟨Try.underlying72, Maps.int_keyed Try.underlying3, fun _ h => ⟨_, Maps.keyOf_int_mk Try.underlying3 h⟩⟩
theorem zeroInt (w : World) : (zeroValue 3).run Try.prog w = .ok (.int .i64 0) w := by kernel_rfl
def cntOf (cs : List (Int × Int)) (t : Int) : Int := (mlook cs t).getD 0
theorem cntOf_put (cs : List (Int × Int)) (t c : Int) : cntOf (mput cs t c) = upd (cntOf cs) t c := by
  funext u
  unfold cntOf
  by_cases h : u = t
  · subst h; rw [mlook_mput_same, upd_same]; rfl
  · rw [mlook_mput_ne h, upd_ne _ _ h]
theorem St.cnt {w0 w : World} {R : HP} {b : Nat} {cs : List (Int × Int)} (h : St w0 w (MAt kInt vNum b cs * R)) (t : Int) (hk : kInt.ok t) :
    (Instr.lookup 72 (.map (some b)) (.int .i64 t) false).run Try.prog w = .ok (.int .i64 (cntOf cs t)) w := by
  have := h.map_look tyCnt t hk (zeroInt _) false
  rw [show ((mlook cs t).map vNum).getD (.int .i64 0) = .int .i64 (cntOf cs t) by unfold cntOf; cases mlook cs t <;> rfl] at this
  exact this

theorem au_msg (x : Sr) (t : Int) (h1 : 0 ≤ t) (h2 : t ≤ 127) : x.message ⟨5, 5, t⟩ = ((x.response t).1, (x.response t).2) := by
  have hb : Msg.bad ⟨5, 5, t⟩ = 0 := by
    unfold Msg.bad
    simp only []
    rw [if_neg (by omega), if_neg (by omega)]
    repeat' split
    all_goals first | rfl | omega
  unfold Sr.message
  rw [hb, if_neg (by simp), if_neg (by simp), if_pos rfl]

/-- how many answered once -/
def oneOf (cs : List (Int × Int)) (k : Nat) : List Nat := (List.range k).filter fun i => decide (cntOf cs (64 + (i : Int)) = 1)
theorem oneOf_succ (cs : List (Int × Int)) (k : Nat) : oneOf cs (k + 1) = if cntOf cs (64 + (k : Int)) = 1 then oneOf cs k ++ [k] else oneOf cs k := by
  unfold oneOf
  rw [List.range_succ, List.filter_append]
  by_cases h : cntOf cs (64 + (k : Int)) = 1
  · rw [if_pos h, List.filter_cons_of_pos (by simpa using h)]; rfl
  · rw [if_neg h, List.filter_cons_of_neg (by simpa using h)]; simp
theorem oneOf_le (cs : List (Int × Int)) (k : Nat) : (oneOf cs k).length ≤ k := by
  have := List.length_filter_le (fun i : Nat => decide (cntOf cs (64 + (i : Int)) = 1)) (List.range k)
  simpa [oneOf] using this
theorem upto_one {n : Nat} (hn : n ≤ 63) {s : Pl} {cs : List (Int × Int)} (h : ∀ t, s.has t = decide (inn n t ∧ cntOf cs t = 1)) : s.upto 63 = oneOf cs n := by
  have hb : ∀ i : Nat, i < 63 → s.on.testBit i = decide (i < n ∧ cntOf cs (64 + (i : Int)) = 1) := by
    intro i hi
    have := h (64 + (i : Int))
    unfold Pl.has inn at this
    rw [decide_eq_true (by omega), Bool.true_and, show (64 + (i : Int)).toNat - 64 = i by omega] at this
    rw [this]
    refine decide_eq_decide.2 ⟨fun h => ⟨by omega, h.2⟩, fun h => ⟨by omega, h.2⟩⟩
  unfold Pl.upto oneOf
  obtain ⟨d, hd⟩ : ∃ d, 63 = n + d := ⟨63 - n, by omega⟩
  rw [hd, List.range_add, List.filter_append]
  have e1 : (List.range n).filter (fun i => s.on.testBit i) = (List.range n).filter fun (i : Nat) => decide (cntOf cs (64 + (i : Int)) = 1) := by
    refine List.filter_congr fun i hi => ?_
    have := List.mem_range.1 hi
    rw [hb i (by omega)]
    exact decide_eq_decide.2 ⟨fun h => h.2, fun h => ⟨this, h⟩⟩
  have e2 : ((List.range d).map fun x => n + x).filter (fun i => s.on.testBit i) = [] := by
    rw [List.filter_eq_nil_iff]
    intro i hi
    obtain ⟨j, hj, rfl⟩ := List.mem_map.1 hi
    have := List.mem_range.1 hj
    rw [hb _ (by omega)]
    simp
    omega
  rw [e1, e2, List.append_nil]

set_option maxRecDepth 100000 in
set_option maxHeartbeats 3200000 in
theorem SourceAudits.walk (a0 : Int) (a1 : Option Addr) (len1 cap1 : Nat) (w : World) (_w0 : (Lit.int .i64 a0).wf = true) (w1 : (Sh.slice (.int .i64)).ok w [.slice a1 len1 cap1]) :
    Calls Try.prog 10 #[.int .i64 a0, .slice a1 len1 cap1] w fun e w' => e = .returned (.bool true) ∧ Below w.heap.size w w' := by
  obtain ⟨l1, l2, l3⟩ := ints_ok w1
  unfold maxLen at l2
  go_enter Try.func10, Try.ntmps10
  go_wp2_with fail
  refine (so_new w w _ (St.start w)).mono ?_
  rintro e w1 ⟨s, rfl, h1⟩
  go_upto_region 2 with fail
  go_cut [0] (fun s0 wx => ∃ n : Nat, 1 ≤ n ∧ n ≤ 63 ∧ s0 = .int .i64 n ∧ w1 = wx)
  case first =>
    have hw : IntKind.i64.wrap (1 + max 0 a0 % 63) = 1 + max 0 a0 % 63 := by rw [IntKind.wrap_i64]; omega
    by_cases ha : 0 < a0
    · go_wp2
      go_meet
      exact ⟨(1 + a0 % 63).toNat, by omega, by omega, by congr 1; omega, rfl⟩
    · go_wp2
      go_meet
      exact ⟨1, by omega, by omega, by congr 1; omega, rfl⟩
  case rest =>
    obtain ⟨n, hn1, hn, rfl, rfl⟩ := hcut
    go_wp2
    go_loopw [22] (fun i wr => ∃ (k : Nat), k ≤ n ∧ i = .int .i64 k ∧ Sr.Ok ⟨DP k, []⟩ ∧ St w wr (SAt s ⟨DP k, []⟩ * Old w)) (fun i _ => n - (intOf i).toNat)
    case atStart => exact ⟨0, by omega, rfl, Sr.Ok.new, h1⟩
    case round =>
      clear h1
      obtain ⟨k, hk, rfl, ok, h2⟩ := hrel
      by_cases hlt : k < n
      · have e := den_one k (by omega) [] 1 (by omega) (by omega)
        have ok' := ok.message ⟨1, 1, 127⟩
        rw [e] at ok'
        simp only [] at ok'
        have E := Lib.hid e
        clear e
        go_wp2_with fail
        refine (so_message_to h2 ok E.out).mono ?_
        rintro e w3 ⟨v3, rfl, h3⟩
        clear h2
        go_wp2
        go_roundw
        case rel => exact ⟨k + 1, by omega, by go_num, ok', h3.drop⟩
        case measure => simp [intOf]; omega
      · obtain rfl : n = k := by omega
        have hau := Au.start n hn ok
        have hmm := @run_makeMap Try.prog
        have h3 := (h2.map_new kInt vNum).f2
        have ha := so_audit s ⟨DP n, []⟩ _ _ _ h3 ok.on
        generalize hx : Sr.audit ⟨DP n, []⟩ = xa at *
        obtain ⟨x1, el⟩ := xa
        have HAU := Lib.hid hau
        clear hx hau h2 h3 hlt hk
        go_wp2_with fail
        refine ha.mono ?_
        rintro e w3 ⟨v3, rfl, h4⟩
        have h5 := h4.drop
        clear h4 hmm ha
        obtain ⟨cb, hcb⟩ : ∃ cb, wr.heap.size = cb := ⟨_, rfl⟩
        rw [hcb] at h5
        try rw [hcb]
        clear hcb
        go_upto_region 9 with fail
        go_cut [35, 36, 37] (fun s35 s36 s37 wx => ∃ m : Nat, m ≤ len1 ∧ m ≤ 200 ∧ s35 = .slice a1 m cap1 ∧ s36 = .int .i64 m ∧ s37 = .int .i64 0 ∧ w3 = wx)
        case first =>
          go_wp2
          all_goals (go_meet; first | exact ⟨len1, Nat.le_refl _, by omega, rfl, rfl, rfl, rfl⟩ | exact ⟨200, by omega, by omega, rfl, rfl, rfl, rfl⟩ | (refine ⟨(min (len1 : Int) 200).toNat, by omega, by omega, ?_, ?_, rfl, rfl⟩ <;> (first | rfl | (congr 1; omega) | trace_state)))
        case rest =>
          obtain ⟨m, hm, hm200, rfl, rfl, rfl, rfl⟩ := hcut
          go_wp2
          go_loopw [37] (fun i wq => ∃ (k : Nat) (x : Sr) (cs : List (Int × Int)), k ≤ m ∧ i = .int .i64 k ∧ Hid (Au n (cntOf cs) (fun _ => 0) x) ∧ Hid (∀ t, 0 ≤ cntOf cs t ∧ cntOf cs t ≤ k) ∧ St w wq (SAt s x * (MAt kInt vNum cb cs * Old w))) (fun i _ => m - (intOf i).toNat)
          case atStart => exact ⟨0, x1, [], by omega, rfl, HAU, Lib.hid (fun t => ⟨Int.le_refl _, Int.le_refl _⟩), h5⟩
          case round =>
            clear h5
            obtain ⟨k, x, cs, hk, rfl, HA, HC, h6⟩ := hrel
            by_cases hlt : k < m
            · obtain ⟨b, off, rfl, hb, hi⟩ := l3 (by omega)
              obtain ⟨a, ha, hwf⟩ := hi k (by omega)
              have d0 := (h6.drop.drop.old0).cell (p := ⟨b, off + k, none⟩) hb
              rw [ha] at d0
              clear hi ha l3
              go_upto_region 12 with fail
              go_cut [9] (fun s9 wx => ∃ t : Int, 64 ≤ t ∧ t < 64 + (n : Int) ∧ s9 = .int .i64 t ∧ wr = wx)
              case first =>
                obtain ⟨mx, hmx⟩ : ∃ mx, max 0 a = mx := ⟨_, rfl⟩
                have hmx0 : 0 ≤ mx := by omega
                obtain ⟨q, hq⟩ : ∃ q, Int.tmod mx (n : Int) = q := ⟨_, rfl⟩
                have q0 : 0 ≤ q := by rw [← hq]; exact Int.tmod_nonneg _ hmx0
                have q1 : q < n := by rw [← hq]; exact Int.tmod_lt_of_pos _ (by omega)
                have hn0 : ¬ ((n : Int) = 0) := by omega
                have hw1 : IntKind.i64.wrap q = q := by rw [IntKind.wrap_i64]; omega
                have hw2 : IntKind.i64.wrap (64 + q) = 64 + q := by rw [IntKind.wrap_i64]; omega
                go_wp2
                go_meet
                exact ⟨64 + q, by omega, by omega, rfl, rfl⟩
              case rest =>
                obtain ⟨t, ht1, ht2, rfl, rfl⟩ := hcut
                have hkt := kok t (by omega) (by omega)
                obtain ⟨c, hc⟩ : ∃ c, cntOf cs t = c := ⟨_, rfl⟩
                have hl := h6.f2.cnt t hkt
                rw [hc] at hl
                have hcb := HC.out t
                rw [hc] at hcb
                have hw : IntKind.i64.wrap (c + 1) = c + 1 := by rw [IntKind.wrap_i64]; omega
                have HAN := Lib.hid (HA.out.respond (t := t) (HC.out t).1 ⟨ht1, ht2⟩)
                have HCC := Lib.hid hc
                clear hc d0
                go_wp2_with (at_mapUpdate; refine wp_mput rfl (.tmp 46) (.tmp 47) (.tmp 49) 72 rfl tyCnt h6.f2 rfl t rfl hkt (c + 1) rfl ?_; intro w5 h7)
                go_wp2_with fail
                refine (so_message_to h7.f2 HA.out.ok (au_msg x t (by omega) (by omega))).mono ?_
                rintro e w6 ⟨v, rfl, h8⟩
                clear hl h6 h7
                go_wp2
                go_roundw
                case rel =>
                  refine ⟨k + 1, (x.response t).1, mput cs t (c + 1), by omega, by go_num, ?_, ?_, h8.drop⟩
                  · rw [cntOf_put, ← HCC.out]; exact HAN.out
                  · intro u
                    rw [cntOf_put]
                    have := HC.out u
                    unfold upd
                    split <;> omega
                case measure => simp [intOf]; omega
            · obtain rfl : m = k := by omega
              clear hlt hk
              have hA2 := Lib.hid (show Au n (cntOf cs) (fun _ => 0) x ∧ ∀ t, inn n t → (fun _ : Int => 0) t = 0 from ⟨HA.out, fun _ _ => rfl⟩)
              have hcs : ∀ t, 0 ≤ cntOf cs t ∧ cntOf cs t ≤ 200 := fun t => by have := HC.out t; omega
              have HCS := Lib.hid hcs
              clear hcs HA HC
              go_wp2
              go_loopw [55] (fun i w2 => ∃ (r : Nat) (x : Sr) (ph : Int → Nat), r ≤ 2 ∧ i = .int .i64 r ∧ Hid (Au n (cntOf cs) ph x ∧ ∀ t, inn n t → ph t = r) ∧ St w w2 (SAt s x * (MAt kInt vNum cb cs * Old w))) (fun i _ => 2 - (intOf i).toNat)
              case atStart => exact ⟨0, x, fun _ => 0, by omega, rfl, ⟨hA2.out.1, fun _ _ => rfl⟩, h6⟩
              case round =>
                clear h6 hA2
                obtain ⟨r, x, ph, hr, rfl, HA, h6⟩ := hrel
                by_cases hr2 : r < 2
                · have hA3 := Lib.hid (show Au n (cntOf cs) ph x ∧ ∀ t, inn n t → ph t = if t < ((0 : Nat) : Int) then r + 1 else r from ⟨HA.out.1, fun t ht => by rw [HA.out.2 t ht, if_neg (by have := ht.1; omega)]⟩)
                  have hrb : decide ((r : Int) < 2) = true := by simp; omega
                  have hrw : IntKind.i64.wrap ((r : Int) + 1) = (r : Int) + 1 := by rw [IntKind.wrap_i64]; omega
                  have HR := Lib.hid hr2
                  clear HA hr hr2
                  go_wp2
                  go_loopw [57] (fun i w2 => ∃ (j : Nat) (x : Sr) (ph : Int → Nat), j ≤ 128 ∧ i = .int .i64 j ∧ Hid (Au n (cntOf cs) ph x ∧ ∀ t, inn n t → ph t = if t < (j : Int) then r + 1 else r) ∧ St w w2 (SAt s x * (MAt kInt vNum cb cs * Old w))) (fun i _ => 128 - (intOf i).toNat)
                  case atStart => exact ⟨0, x, ph, by omega, rfl, hA3, h6⟩
                  case round =>
                    clear h6 hA3
                    obtain ⟨j, x, ph, hj, rfl, HA, h6⟩ := hrel
                    by_cases hj2 : j < 128
                    · have HN := Lib.hid (HA.out.1.over (j : Int))
                      go_wp2_with fail
                      refine (so_timeout s x (j : Int) _ _ _ h6 HA.out.1.ok (kok _ (by omega) (by omega))).mono ?_
                      rintro e w6 ⟨v, rfl, h8⟩
                      clear h6
                      go_wp2
                      go_roundw
                      case rel =>
                        refine ⟨j + 1, (x.timeout j).1, upd ph j (ph j + 1), by omega, by go_num, ⟨HN.out, fun t ht => ?_⟩, h8.drop⟩
                        have := HA.out.2 t ht
                        unfold upd
                        by_cases e : t = (j : Int)
                        · rw [if_pos e, if_pos (by omega), ← e, this, if_neg (by omega)]
                        · rw [if_neg e, this]
                          by_cases e2 : t < (j : Int)
                          · rw [if_pos e2, if_pos (by omega)]
                          · rw [if_neg e2, if_neg (by omega)]
                      case measure => simp [intOf]; omega
                    · go_wp2
                      go_roundw
                      case rel => exact ⟨r + 1, x, ph, by have := HR.out; omega, by go_num, ⟨HA.out.1, fun t ht => by rw [HA.out.2 t ht, if_pos (by have := ht.2; omega)]⟩, h6⟩
                      case measure => have := HR.out; simp [intOf]; omega
                · have hdn := HA.out.1.done (fun t ht => by rw [HA.out.2 t ht]; omega)
                  have ok2 := HA.out.1.ok
                  have hup := upto_one hn hdn.2
                  have hck := hdn.1
                  have HUP := Lib.hid hup
                  have HCK := Lib.hid hck
                  have hw64 : IntKind.i64.wrap (64 + (n : Int)) = 64 + (n : Int) := by rw [IntKind.wrap_i64]; omega
                  obtain rfl : r = 2 := by omega
                  clear HA hdn hup hck hr hr2
                  go_wp2
                  go_loopw [11, 12] (fun s11 i w2 => ∃ k : Nat, k ≤ n ∧ i = .int .i64 (64 + (k : Int)) ∧ s11 = .int .i64 (oneOf cs k).length ∧ St w w2 (SAt s x * (MAt kInt vNum cb cs * Old w))) (fun _ i _ => 64 + n - (intOf i).toNat)
                  case atStart => exact ⟨0, by omega, rfl, rfl, h6⟩
                  case round =>
                    clear h6
                    obtain ⟨k, hk, rfl, rfl, h6⟩ := hrel
                    by_cases hk2 : k < n
                    · obtain ⟨c, hc⟩ : ∃ c, cntOf cs (64 + (k : Int)) = c := ⟨_, rfl⟩
                      have hl := h6.f2.cnt (64 + (k : Int)) (kok _ (by omega) (by omega))
                      rw [hc] at hl
                      have hlt2 : decide (64 + (k : Int) < 64 + (n : Int)) = true := by simp; omega
                      have hw1 : IntKind.i64.wrap (64 + (k : Int) + 1) = 64 + (k : Int) + 1 := by rw [IntKind.wrap_i64]; omega
                      have hle := oneOf_le cs k
                      have hs := oneOf_succ cs k
                      rw [hc] at hs
                      obtain ⟨N, hN⟩ : ∃ N, (oneOf cs k).length = N := ⟨_, rfl⟩
                      have hw2 : IntKind.i64.wrap ((N : Int) + 1) = (N : Int) + 1 := by rw [IntKind.wrap_i64]; omega
                      rw [hN]
                      by_cases h1 : c = 1
                      · subst h1
                        have hN2 : (oneOf cs (k + 1)).length = N + 1 := by rw [hs, if_pos rfl, List.length_append, hN]; rfl
                        have HN2 := Lib.hid hN2
                        clear hs hN hN2 hc
                        go_wp2
                        go_roundw
                        case rel => exact ⟨k + 1, by omega, by congr 1, by rw [HN2.out]; rfl, h6⟩
                        case measure => simp [intOf]; omega
                      · have b1 : (c == 1) = false := by simpa using h1
                        have hN2 : (oneOf cs (k + 1)).length = N := by rw [hs, if_neg h1, hN]
                        have HN2 := Lib.hid hN2
                        clear hs hN hN2 hc h1
                        go_wp2
                        go_roundw
                        case rel => exact ⟨k + 1, by omega, by congr 1, by rw [HN2.out], h6⟩
                        case measure => simp [intOf]; omega
                    · have hlt2 : decide (64 + (k : Int) < 64 + (n : Int)) = false := by simp; omega
                      have hkn : k = n := by omega
                      have HKN := Lib.hid hkn
                      clear hkn
                      go_wp2_with fail
                      refine (so_list s x _ _ _ h6 ok2.on).mono ?_
                      rintro e w6 ⟨v, rfl, h7⟩
                      rw [HUP.out] at h7
                      have hks : (oneOf cs k).length = (oneOf cs n).length := by rw [HKN.out]
                      rw [hks]
                      obtain ⟨ks, hkse⟩ : ∃ ks, oneOf cs n = ks := ⟨_, rfl⟩
                      have hone : ∀ i ∈ ks, i < n ∧ cntOf cs (64 + (i : Int)) = 1 := fun i hi => by
                        rw [← hkse] at hi
                        have := List.mem_filter.1 hi
                        exact ⟨List.mem_range.1 this.1, by simpa using this.2⟩
                      rw [hkse] at h7 ⊢
                      have hkl : ks.length ≤ n := by rw [← hkse]; exact oneOf_le cs n
                      obtain ⟨N, hN⟩ : ∃ N, ks.length = N := ⟨_, rfl⟩
                      obtain ⟨av, cv, rfl, _, _⟩ := h7.row_shape
                      rw [hN] at h7 hkl ⊢
                      have HN := Lib.hid hN
                      have HONE := Lib.hid hone
                      clear hks hkse hone hN h6 hlt2
                      go_wp2
                      go_loopw [81] (fun i w2 => ∃ j : Nat, j ≤ N ∧ i = .int .i64 j ∧ St w w2 (Row 3 1 (.slice av N cv) N (teis ks) * (SAt s x * (MAt kInt vNum cb cs * Old w)))) (fun i _ => N - (intOf i).toNat)
                      case atStart => exact ⟨0, by omega, rfl, h7⟩
                      case round =>
                        clear h7
                        obtain ⟨j, hj, rfl, h7⟩ := hrel
                        by_cases hj2 : j < N
                        · have hN := HN.out
                          obtain ⟨i, hi⟩ : ∃ i, ks[j]? = some i := ⟨_, List.getElem?_eq_getElem (by omega)⟩
                          obtain ⟨hi1, hi2⟩ := HONE.out i (List.mem_of_getElem? hi)
                          have hl := h7.f3.cnt (64 + (i : Int)) (kok _ (by omega) (by omega))
                          rw [hi2] at hl
                          rcases h7.row with ⟨_, _, h0, _⟩ | ⟨g, off, cap, cur, hv, _, _, _, _, _⟩
                          · omega
                          simp only [Value.slice.injEq] at hv
                          obtain ⟨rfl, _, rfl⟩ := hv
                          have d0 := h7.row_cell j (by omega)
                          rw [show (teis ks)[j]? = some (.int .i64 (64 + (i : Int))) by simp [teis, hi]] at d0
                          have H7 := Lib.hid h7
                          clear hi hN hi2 h7
                          go_wp2
                          go_roundw
                          case rel => exact ⟨j + 1, by omega, by go_num, H7.out⟩
                          case measure => simp [intOf]; omega
                        · go_wp2_with fail
                          refine (so_wakes _ _ _ h7).mono ?_
                          rintro e w7 ⟨rfl, h8⟩
                          have hc0 := HCK.out
                          go_wp2_with fail
                          refine (so_checks s x _ _ _ h8.f2 (by rw [hc0]; simp)).mono ?_
                          rintro e w8 ⟨vc, rfl, h9⟩
                          have s9 := h9.l_shape
                          rw [chks_len, hc0] at s9
                          simp only [List.length_nil] at s9
                          obtain ⟨ac, cc, rfl, _, _⟩ := s9
                          have q1 : ((N : Int) == (N : Int)) = true := by simp
                          go_wp2
                          go_ret
                          exact ⟨by first | rfl | simp, h9.drop.drop.drop.drop.old0⟩
end Go.Proofs.Ytbnbknabedgpcaa
