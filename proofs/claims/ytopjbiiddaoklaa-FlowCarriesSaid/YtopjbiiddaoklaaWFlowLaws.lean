/- The flow laws' walks: FlowPlays, FlowWindow. -/
import Derived.Test.YtopjbiiddaoklaaWFlowWakes
namespace Go.Proofs.Ytopjbiiddaoklaa
open Go.RowKit

abbrev FActSh : Sh := .pair (.int .i64) (.pair (.int .i64) (.pair (.bool) (.pair (.bool) (.pair (.string) (.unit)))))
theorem FAct.of_ok {w : World} {xs : List Value} (h : FActSh.ok w xs) : ∃ a : FAct, xs = a.cells.toList := by
  obtain ⟨x, y, rfl, _, ⟨d, rfl, hd⟩, x, y, rfl, _, ⟨n, rfl, hn⟩, x, y, rfl, _, ⟨o, rfl⟩, x, y, rfl, _, ⟨p, rfl⟩, x, y, rfl, _, ⟨s, rfl, hs⟩, rfl⟩ := h
  exact ⟨⟨d, n, o, p, s⟩, rfl⟩

/-- A script: which acts it holds, and where. -/
theorem fscript {w : World} {a : Option Addr} {len cap : Nat} (h : (Sh.slice FActSh).ok w [.slice a len cap]) :
    len ≤ cap ∧ cap ≤ maxLen ∧ (0 < len → ∃ b off, a = some ⟨b, off, none⟩ ∧ b < w.heap.size ∧ ∀ i, i < len → ∃ x : FAct,
      w.cell? ⟨b, off + i * 5, none⟩ = some (.int .i64 x.Do) ∧ w.cell? ⟨b, off + i * 5 + 1, none⟩ = some (.int .i64 x.N) ∧ w.cell? ⟨b, off + i * 5 + 2, none⟩ = some (.bool x.Near) ∧ w.cell? ⟨b, off + i * 5 + 3, none⟩ = some (.bool x.On) ∧ w.cell? ⟨b, off + i * 5 + 4, none⟩ = some (.string x.Data)) := by
  obtain ⟨h1, h2, h3⟩ := Sh.slice_ok h (by decide)
  refine ⟨h1, h2, fun h0 => ?_⟩
  obtain ⟨b, off, e, hb, hi⟩ := h3 h0
  refine ⟨b, off, e, hb, fun i hlt => ?_⟩
  obtain ⟨xs, _, hc, hx⟩ := hi i hlt
  obtain ⟨x, rfl⟩ := FAct.of_ok hx
  exact ⟨x, hc 0 (by decide), hc 1 (by decide), hc 2 (by decide), hc 3 (by decide), hc 4 (by decide)⟩

set_option maxRecDepth 100000 in
set_option maxHeartbeats 1600000 in
theorem FlowPlays.walk (a0 : Int) (a1 : Int) (a2 : Option Addr) (len2 cap2 : Nat) (w : World) (_w0 : (Lit.int .i64 a0).wf = true) (_w1 : (Lit.int .i64 a1).wf = true) (w2 : (Sh.slice FActSh).ok w [.slice a2 len2 cap2]) :
    Calls Try.prog 9 #[.int .i64 a0, .int .i64 a1, .slice a2 len2 cap2] w fun e w' => e = .returned (.bool true) ∧ Below w.heap.size w w' := by
  obtain ⟨l1, l2, l3⟩ := fscript w2
  unfold maxLen at l2
  go_enter Try.func9, Try.ntmps9
  go_wp2_with fail
  refine (f_new _ _ _ _ _ (St.start _)).mono ?_
  rintro e w2 ⟨f, rfl, h1⟩
  go_wp2_with fail
  refine (g_new _ _ _ _ _ h1).mono ?_
  rintro e w3 ⟨r, rfl, h2⟩
  have ok0 := Fl.Ok.new a0 a1
  generalize (⟨0, 0, 0, false, false, false, a0, ⟨(max 1 (min a1 256)).toNat, [], 0⟩⟩ : Fl) = s0 at *
  go_wp2_with fail
  refine (f_wakes _ _ _ h2).mono ?_
  rintro e w4 ⟨rfl, h3⟩
  go_wp2_with fail
  refine (fl_same f r s0 _ _ _ (h3.eq (star_left_comm _ _ _)) ok0).mono ?_
  rintro e wz ⟨rfl, h3⟩
  go_upto_region 4 with fail
  go_cut [29, 30, 31] (fun s33 s34 s35 wx => ∃ m : Nat, m ≤ len2 ∧ m ≤ 150 ∧ s33 = .slice a2 m cap2 ∧ s34 = .int .i64 m ∧ s35 = .int .i64 0 ∧ wz = wx)
  case first =>
    go_wp2
    all_goals (go_meet; first | exact ⟨len2, Nat.le_refl _, by omega, rfl, rfl, rfl, rfl⟩ | exact ⟨150, by omega, by omega, rfl, rfl, rfl, rfl⟩)
  case rest =>
  obtain ⟨m, hm, _, rfl, rfl, rfl, rfl⟩ := hcut
  go_wp2
  go_loopw [31] (fun i wr => ∃ (k : Nat) (s : Fl), k ≤ m ∧ i = .int .i64 k ∧ s.Ok ∧ St w wr (FAt TF TQ f s * (FAt TG TR r s * Old w))) (fun i _ => m - (intOf i).toNat)
  case atStart => exact ⟨0, s0, by omega, rfl, ok0, h3⟩
  case round =>
    clear h1 h2 h3 ok0
    obtain ⟨k, s, hk, rfl, ok, h3⟩ := hrel
    by_cases hlt : k < m
    · obtain ⟨b, off, rfl, hb, hi⟩ := l3 (by omega)
      obtain ⟨x, c0, c1, c2, c3, c4⟩ := hi k (by omega)
      have hbel := (h3.eq (show _ = Old w * (FAt TF TQ f s * FAt TG TR r s) by ac_rfl)).old
      have d0 := (hbel.cell (p := ⟨b, off + k * 5, none⟩) hb).trans c0
      have d1 := (hbel.cell (p := ⟨b, off + k * 5 + 1, none⟩) hb).trans c1
      have d2 := (hbel.cell (p := ⟨b, off + k * 5 + 2, none⟩) hb).trans c2
      have d3 := (hbel.cell (p := ⟨b, off + k * 5 + 3, none⟩) hb).trans c3
      have d4 := (hbel.cell (p := ⟨b, off + k * 5 + 4, none⟩) hb).trans c4
      clear hi l3 c0 c1 c2 c3 c4
      have h4 := ((h3.alloc (.cells x.cells 67)).eq (show _ = blk _ _ * (FAt TF TQ f s * (FAt TG TR r s * Old w)) from rfl)).drop
      go_wp2_with fail
      refine (fl_act f r s x w _ _ h4 ok).mono ?_
      rintro e w5 ⟨rfl, s', ok', lk, h5⟩
      go_wp2_with fail
      refine (fl_same f r s' _ _ _ h5 ok').mono ?_
      rintro e w6 ⟨rfl, h6⟩
      go_wp2
      go_roundw
      case rel => exact ⟨k + 1, s', by omega, by go_num, ok', h6⟩
      case measure => simp [intOf]; omega
    · go_wp2
      go_ret
      exact ⟨rfl, h3.drop.drop.old0⟩

set_option maxRecDepth 100000 in
set_option maxHeartbeats 1600000 in
theorem FlowWindow.walk (a0 : Int) (a1 : Option Addr) (len1 cap1 : Nat) (w : World) (_w0 : (Lit.int .i64 a0).wf = true) (w1 : (Sh.slice FActSh).ok w [.slice a1 len1 cap1]) :
    Calls Try.prog 10 #[.int .i64 a0, .slice a1 len1 cap1] w fun e w' => e = .returned (.bool true) ∧ Below w.heap.size w w' := by
  obtain ⟨l1, l2, l3⟩ := fscript w1
  unfold maxLen at l2
  go_enter Try.func10, Try.ntmps10
  go_wp2_with fail
  refine (f_new _ _ _ _ _ (St.start _)).mono ?_
  rintro e w2 ⟨f, rfl, h1⟩
  go_wp2_with fail
  refine (g_new _ _ _ _ _ h1).mono ?_
  rintro e wz ⟨r, rfl, h3⟩
  have h3 := h3.eq (star_left_comm _ _ _)
  have ok0 := Fl.Ok.new a0 (200 : Int)
  have k0 : Fl.k ⟨0, 0, 0, false, false, false, a0, ⟨(max 1 (min (200 : Int) 256)).toNat, [], 0⟩⟩ = a0 := rfl
  generalize (⟨0, 0, 0, false, false, false, a0, ⟨(max 1 (min (200 : Int) 256)).toNat, [], 0⟩⟩ : Fl) = s0 at *
  have K0 := Lib.hid k0
  clear h1 k0
  go_upto_region 2 with fail
  go_cut [18, 19, 20] (fun s33 s34 s35 wx => ∃ m : Nat, m ≤ len1 ∧ m ≤ 150 ∧ s33 = .slice a1 m cap1 ∧ s34 = .int .i64 m ∧ s35 = .int .i64 0 ∧ wz = wx)
  case first =>
    go_wp2
    all_goals (go_meet; first | exact ⟨len1, Nat.le_refl _, by omega, rfl, rfl, rfl, rfl⟩ | exact ⟨150, by omega, by omega, rfl, rfl, rfl, rfl⟩)
  case rest =>
  obtain ⟨m, hm, _, rfl, rfl, rfl, rfl⟩ := hcut
  go_wp2
  go_loopw [20] (fun i wr => ∃ (k : Nat) (s : Fl), k ≤ m ∧ i = .int .i64 k ∧ s.Ok ∧ Hid (s.k = a0) ∧ St w wr (FAt TF TQ f s * (FAt TG TR r s * Old w))) (fun i _ => m - (intOf i).toNat)
  case atStart => exact ⟨0, s0, by omega, rfl, ok0, K0, h3⟩
  case round =>
    clear h3 ok0 K0
    obtain ⟨k, s, hk, rfl, ok, K0, h3⟩ := hrel
    by_cases hlt : k < m
    · obtain ⟨b, off, rfl, hb, hi⟩ := l3 (by omega)
      obtain ⟨x, c0, c1, c2, c3, c4⟩ := hi k (by omega)
      have hbel := (h3.eq (show _ = Old w * (FAt TF TQ f s * FAt TG TR r s) by ac_rfl)).old
      have d0 := (hbel.cell (p := ⟨b, off + k * 5, none⟩) hb).trans c0
      have d1 := (hbel.cell (p := ⟨b, off + k * 5 + 1, none⟩) hb).trans c1
      have d2 := (hbel.cell (p := ⟨b, off + k * 5 + 2, none⟩) hb).trans c2
      have d3 := (hbel.cell (p := ⟨b, off + k * 5 + 3, none⟩) hb).trans c3
      have d4 := (hbel.cell (p := ⟨b, off + k * 5 + 4, none⟩) hb).trans c4
      clear hi l3 c0 c1 c2 c3 c4
      have h4 := ((h3.alloc (.cells x.cells 67)).eq (show _ = blk _ _ * (FAt TF TQ f s * (FAt TG TR r s * Old w)) from rfl)).drop
      go_wp2_with fail
      refine (fl_act f r s x w _ _ h4 ok).mono ?_
      rintro e w5 ⟨rfl, s', ok', lk, h5⟩
      have K1 : Hid (s'.k = a0) := Lib.hid (lk.k.trans K0.out)
      go_wp2_with fail
      refine (f_view f s' _ _ _ h5 ok').mono ?_
      rintro e w6 ⟨rfl, h6⟩
      have n1 := ok'.s1
      have n2 := ok'.a1
      have n3 := ok'.r1
      have n4 := ok'.q.sl
      have n5 : (s'.q.sent : Int) ≤ max 1 (min a0 127) := by have := ok'.n; rw [K1.out] at this; exact this
      have n6 := ok'.q.len
      have hw1 : (s'.q.sent : Int) ≤ ((s'.vs : Int) - s'.va) % 128 := Int.le_of_eq ok'.w
      have hw2 : ((s'.vs : Int) - s'.va) % 128 ≤ (s'.q.sent : Int) := Int.le_of_eq ok'.w.symm
      simp only [Fl.view]
      go_wp2
      all_goals
        go_roundw
        case rel => exact ⟨k + 1, s', by omega, by go_num, ok', K1, (h6.alloc _).drop⟩
        case measure => simp [intOf]; omega
    · go_wp2_with fail
      refine (f_wakes _ _ _ h3).mono ?_
      rintro e w6 ⟨rfl, h6⟩
      go_wp2
      go_ret
      exact ⟨rfl, h6.drop.drop.old0⟩
end Go.Proofs.Ytopjbiiddaoklaa
