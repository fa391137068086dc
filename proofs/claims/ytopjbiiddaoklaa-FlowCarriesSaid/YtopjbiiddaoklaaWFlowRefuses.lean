/- The flow laws' walks, further: FlowRefuses, FlowStops. -/
import Derived.Test.YtopjbiiddaoklaaWFlowNil
namespace Go.Proofs.Ytopjbiiddaoklaa
open Go.RowKit

theorem f_come_to {f : Nat} {s s' : Fl} {n x : Int} {w0 w : World} {R : HP} (h : St w0 w (FAt TF TQ f s * R)) (e : s.come n = (s', x)) :
    Calls Try.prog 38 #[ptr f, .int .i64 n] w fun e w' => e = .returned (.int .i64 x) ∧ St w0 w' (FAt TF TQ f s' * R) := by
  have := f_come f s n w0 w R h
  rw [e] at this
  exact this
theorem f_view_to {f : Nat} {s : Fl} {v : Array Value} {w0 w : World} {R : HP} (h : St w0 w (FAt TF TQ f s * R)) (ok : s.Ok) (e : s.view = v) :
    Calls Try.prog 36 #[ptr f] w fun e w' => e = .returned (.agg v) ∧ St w0 w' (FAt TF TQ f s * R) := e ▸ f_view f s w0 w R h ok

set_option maxRecDepth 100000 in
set_option maxHeartbeats 1600000 in
theorem FlowRefuses.walk (a0 : Int) (a1 : Option Addr) (len1 cap1 : Nat) (a2 : Int) (w : World) (_w0 : (Lit.int .i64 a0).wf = true) (w1 : (Sh.slice FActSh).ok w [.slice a1 len1 cap1]) (_w2 : (Lit.int .i64 a2).wf = true) :
    Calls Try.prog 12 #[.int .i64 a0, .slice a1 len1 cap1, .int .i64 a2] w fun e w' => e = .returned (.bool true) ∧ Below w.heap.size w w' := by
  obtain ⟨l1, l2, l3⟩ := fscript w1
  unfold maxLen at l2
  have hEq := view_eqi
  have hGd := view_guard
  go_enter Try.func12, Try.ntmps12
  go_wp2_with fail
  refine (f_new _ _ _ _ _ (St.start _)).mono ?_
  rintro e w2 ⟨f, rfl, h1⟩
  go_wp2_with fail
  refine (g_new _ _ _ _ _ h1).mono ?_
  rintro e wz ⟨r, rfl, h3⟩
  have h3 := h3.eq (star_left_comm _ _ _)
  have ok0 := Fl.Ok.new a0 (50 : Int)
  have k0 : Fl.k ⟨0, 0, 0, false, false, false, a0, ⟨(max 1 (min (50 : Int) 256)).toNat, [], 0⟩⟩ = a0 := rfl
  generalize (⟨0, 0, 0, false, false, false, a0, ⟨(max 1 (min (50 : Int) 256)).toNat, [], 0⟩⟩ : Fl) = s0 at *
  have K0 := Lib.hid k0
  clear h1 k0
  go_upto_region 2 with fail
  go_cut [25, 26, 27] (fun s33 s34 s35 wx => ∃ m : Nat, m ≤ len1 ∧ m ≤ 100 ∧ s33 = .slice a1 m cap1 ∧ s34 = .int .i64 m ∧ s35 = .int .i64 0 ∧ wz = wx)
  case first =>
    go_wp2
    all_goals (go_meet; first | exact ⟨len1, Nat.le_refl _, by omega, rfl, rfl, rfl, rfl⟩ | exact ⟨100, by omega, by omega, rfl, rfl, rfl, rfl⟩)
  case rest =>
  obtain ⟨m, hm, _, rfl, rfl, rfl, rfl⟩ := hcut
  go_wp2
  go_loopw [27] (fun i wr => ∃ (k : Nat) (s : Fl), k ≤ m ∧ i = .int .i64 k ∧ s.Ok ∧ Hid (s.k = a0) ∧ St w wr (FAt TF TQ f s * (FAt TG TR r s * Old w))) (fun i _ => m - (intOf i).toNat)
  case atStart => exact ⟨0, s0, by omega, rfl, ok0, K0, h3⟩
  case round =>
    clear h3 ok0 K0
    obtain ⟨k, s, hk, rfl, ok, K0, h3⟩ := hrel
    by_cases hlt : k < m
    · obtain ⟨b, off, rfl, hb, hi⟩ := l3 (by omega)
      obtain ⟨x, c0, c1, c2, c3, c4⟩ := hi k (by omega)
      have hbel := (h3.eq (show _ = Old w * (FAt TF TQ f s * FAt TG TR r s) by ac_rfl)).old
      have d0 := (hbel.cell (p := ⟨b, off + k * 5, none⟩) hb).trans c0
      have d1 := (hbel.cell (p := ⟨b, off + k * 5 + 1, none⟩) hb).trans c1
      have d2 := (hbel.cell (p := ⟨b, off + k * 5 + 2, none⟩) hb).trans c2
      have d3 := (hbel.cell (p := ⟨b, off + k * 5 + 3, none⟩) hb).trans c3
      have d4 := (hbel.cell (p := ⟨b, off + k * 5 + 4, none⟩) hb).trans c4
      clear hi l3 c0 c1 c2 c3 c4
      have h4 := ((h3.alloc (.cells x.cells 67)).eq (show _ = blk _ _ * (FAt TF TQ f s * (FAt TG TR r s * Old w)) from rfl)).drop
      go_wp2_with fail
      refine (fl_act f r s x w _ _ h4 ok).mono ?_
      rintro e w5 ⟨rfl, s', ok', lk, h5⟩
      have K1 : Hid (s'.k = a0) := Lib.hid (lk.k.trans K0.out)
      go_wp2
      go_roundw
      case rel => exact ⟨k + 1, s', by omega, by go_num, ok', K1, h5⟩
      case measure => simp [intOf]; omega
    · clear l3 K0
      have ok1 := ok
      obtain ⟨n1, n2, n3, okq, hw, _⟩ := ok
      have n4 := okq.sl
      have n6 := okq.len
      clear okq
      go_wp2_with fail
      clear hlt hk
      refine (f_view f s _ _ _ h3 ok1).mono ?_
      rintro e w6 ⟨rfl, h6⟩
      have h7 := h6.alloc (.cells s.view 57)
      obtain ⟨y, hy⟩ : ∃ y : Nat, (y : Int) = (a2 - s.va) % 128 := ⟨((a2 - s.va) % 128).toNat, by omega⟩
      have y1 : (a2 % 128 - s.va + 128) % 128 = (y : Int) := by omega
      have y2 := i64_and127 a2
      by_cases b : (a2 - s.va) % 128 ≤ ((s.vs : Int) - s.va) % 128
      · have hk : s.ack a2 = ({ s with va := (a2 % 128).toNat, q := ⟨s.q.most, s.q.l.drop y, s.q.sent - y⟩ }, (y : Int), 0) := by
          unfold Fl.ack
          rw [if_pos b, ← hy]
          unfold Q.done
          rw [if_neg (by omega)]
          simp
        have ok2 := ok1.ack a2
        rw [hk] at ok2
        have hv : Fl.view { s with va := (a2 % 128).toNat, q := ⟨s.q.most, s.q.l.drop y, s.q.sent - y⟩ } = #[.int .i64 s.vs, .int .i64 (a2 % 128), .int .i64 s.vr, .bool s.peer, .bool s.own, .bool s.refused, .int .i64 ((s.q.sent : Int) - y), .int .i64 ((s.q.l.length : Int) - s.q.sent)] := by
          have x1 : ((a2 % 128).toNat : Int) = a2 % 128 := by omega
          have x2 : ((s.q.sent - y : Nat) : Int) = (s.q.sent : Int) - y := by omega
          have x3 : ((s.q.l.length - y : Nat) : Int) - ((s.q.sent : Int) - y) = (s.q.l.length : Int) - s.q.sent := by omega
          simp only [Fl.view, List.length_drop, x1, x2, x3]
        generalize ({ s with va := (a2 % 128).toNat, q := ⟨s.q.most, s.q.l.drop y, s.q.sent - y⟩ } : Fl) = s' at *
        have e1 : decide ((y : Int) ≤ (s.q.sent : Int)) = true := by simp; omega
        have hle : (y : Int) ≤ (s.q.sent : Int) := by omega
        clear b hy hw
        simp only [Fl.view] at h7 ⊢
        go_wp2_with fail
        refine (f_ack_to (h7.eq (star_left_comm _ _ _)) ok1 hk).mono ?_
        rintro e w8 ⟨rfl, h8⟩
        go_wp2_with fail
        refine (f_view_to h8 ok2 hv).mono ?_
        rintro e w9 ⟨rfl, h9⟩
        have h10 := h9.alloc (.cells #[.int .i64 s.vs, .int .i64 (a2 % 128), .int .i64 s.vr, .bool s.peer, .bool s.own, .bool s.refused, .int .i64 ((s.q.sent : Int) - y), .int .i64 ((s.q.l.length : Int) - s.q.sent)] 57)
        have c1 := (h10.eq (star_3 _ _ _ _)).cell
        have c2 := h10.cell
        go_wp2
        go_quiet (fail)
        go_wp2_with fail
        refine (f_wakes _ _ _ (h10.drewN _)).mono ?_
        rintro e w11 ⟨rfl, h11⟩
        have c3 := (h11.eq (star_3 _ _ _ _)).cell
        have c4 := h11.cell
        go_wp2
        go_ret
        exact ⟨by simp, h11.drop.drop.drop.drop.old0⟩
      · have hk : s.ack a2 = (s, 0, 2) := by
          unfold Fl.ack
          rw [if_neg b]
        have e1 : decide ((s.q.sent : Int) < (y : Int)) = true := by simp; omega
        have hlt : (s.q.sent : Int) < (y : Int) := by omega
        have hle : ¬ (y : Int) ≤ (s.q.sent : Int) := by omega
        clear b hy hw
        simp only [Fl.view] at h7 ⊢
        go_wp2_with fail
        refine (f_ack_to (h7.eq (star_left_comm _ _ _)) ok1 hk).mono ?_
        rintro e w8 ⟨rfl, h8⟩
        go_wp2_with fail
        refine (f_view_to h8 ok1 rfl).mono ?_
        rintro e w9 ⟨rfl, h9⟩
        have h10 := h9.alloc (.cells s.view 57)
        simp only [Fl.view] at h10 ⊢
        have c1 := (h10.eq (star_3 _ _ _ _)).cell
        have c2 := h10.cell
        go_wp2
        go_quiet (fail)
        go_wp2_with fail
        refine (f_wakes _ _ _ (h10.drewN _)).mono ?_
        rintro e w11 ⟨rfl, h11⟩
        have c3 := (h11.eq (star_3 _ _ _ _)).cell
        have c4 := h11.cell
        go_wp2
        go_ret
        exact ⟨by simp, h11.drop.drop.drop.drop.old0⟩
end Go.Proofs.Ytopjbiiddaoklaa
