/- The flow laws' walks, further: FlowStops. -/
import Derived.Test.YtopjbiiddaoklaaWFlowRefuses
namespace Go.Proofs.Ytopjbiiddaoklaa
open Go.RowKit

theorem view_vr (a b c g h : Int) (x y z : Bool) (w : World) : (Instr.field 57 (.agg #[.int .i64 a, .int .i64 b, .int .i64 c, .bool x, .bool y, .bool z, .int .i64 g, .int .i64 h]) 2).run Try.prog w = .ok (.int .i64 c) w := by kernel_rfl

theorem take_vr (s : Fl) : s.take.1.vr = s.vr := by unfold Fl.take; split <;> rfl

set_option maxRecDepth 100000 in
set_option maxHeartbeats 3200000 in
theorem FlowStops.walk (a0 : Int) (a1 : Option Addr) (len1 cap1 : Nat) (a2 : Int) (w : World) (_w0 : (Lit.int .i64 a0).wf = true) (w1 : (Sh.slice FActSh).ok w [.slice a1 len1 cap1]) (_w2 : (Lit.int .i64 a2).wf = true) :
    Calls Try.prog 13 #[.int .i64 a0, .slice a1 len1 cap1, .int .i64 a2] w fun e w' => e = .returned (.bool true) ∧ Below w.heap.size w w' := by
  obtain ⟨l1, l2, l3⟩ := fscript w1
  unfold maxLen at l2
  have hEq := view_eqi
  have hGd := view_guard
  have hFd := view_vr
  go_enter Try.func13, Try.ntmps13
  go_wp2_with fail
  refine (f_new _ _ _ _ _ (St.start _)).mono ?_
  rintro e w2 ⟨f, rfl, h1⟩
  go_wp2_with fail
  refine (g_new _ _ _ _ _ h1).mono ?_
  rintro e wz ⟨r, rfl, h3⟩
  have h3 := h3.eq (star_left_comm _ _ _)
  have ok0 := Fl.Ok.new a0 (50 : Int)
  have k0 : Fl.k ⟨0, 0, 0, false, false, false, a0, ⟨(max 1 (min (50 : Int) 256)).toNat, [], 0⟩⟩ = a0 := rfl
  generalize (⟨0, 0, 0, false, false, false, a0, ⟨(max 1 (min (50 : Int) 256)).toNat, [], 0⟩⟩ : Fl) = s0 at *
  have K0 := Lib.hid k0
  clear h1 k0
  go_upto_region 2 with fail
  go_cut [24, 25, 26] (fun s33 s34 s35 wx => ∃ m : Nat, m ≤ len1 ∧ m ≤ 100 ∧ s33 = .slice a1 m cap1 ∧ s34 = .int .i64 m ∧ s35 = .int .i64 0 ∧ wz = wx)
  case first =>
    go_wp2
    all_goals (go_meet; first | exact ⟨len1, Nat.le_refl _, by omega, rfl, rfl, rfl, rfl⟩ | exact ⟨100, by omega, by omega, rfl, rfl, rfl, rfl⟩)
  case rest =>
  obtain ⟨m, hm, _, rfl, rfl, rfl, rfl⟩ := hcut
  go_wp2
  go_loopw [26] (fun i wr => ∃ (k : Nat) (s : Fl), k ≤ m ∧ i = .int .i64 k ∧ s.Ok ∧ Hid (s.k = a0) ∧ St w wr (FAt TF TQ f s * (FAt TG TR r s * Old w))) (fun i _ => m - (intOf i).toNat)
  case atStart => exact ⟨0, s0, by omega, rfl, ok0, K0, h3⟩
  case round =>
    clear h3 ok0 K0
    obtain ⟨k, s, hk, rfl, ok, K0, h3⟩ := hrel
    by_cases hlt : k < m
    · obtain ⟨b, off, rfl, hb, hi⟩ := l3 (by omega)
      obtain ⟨x, c0, c1, c2, c3, c4⟩ := hi k (by omega)
      have hbel := (h3.eq (show _ = Old w * (FAt TF TQ f s * FAt TG TR r s) by ac_rfl)).old
      have d0 := (hbel.cell (p := ⟨b, off + k * 5, none⟩) hb).trans c0
      have d1 := (hbel.cell (p := ⟨b, off + k * 5 + 1, none⟩) hb).trans c1
      have d2 := (hbel.cell (p := ⟨b, off + k * 5 + 2, none⟩) hb).trans c2
      have d3 := (hbel.cell (p := ⟨b, off + k * 5 + 3, none⟩) hb).trans c3
      have d4 := (hbel.cell (p := ⟨b, off + k * 5 + 4, none⟩) hb).trans c4
      clear hi l3 c0 c1 c2 c3 c4
      have h4 := ((h3.alloc (.cells x.cells 67)).eq (show _ = blk _ _ * (FAt TF TQ f s * (FAt TG TR r s * Old w)) from rfl)).drop
      go_wp2_with fail
      refine (fl_act f r s x w _ _ h4 ok).mono ?_
      rintro e w5 ⟨rfl, s', ok', lk, h5⟩
      have K1 : Hid (s'.k = a0) := Lib.hid (lk.k.trans K0.out)
      go_wp2
      go_roundw
      case rel => exact ⟨k + 1, s', by omega, by go_num, ok', K1, h5⟩
      case measure => simp [intOf]; omega
    · clear l3
      go_wp2_with fail
      clear hlt hk
      refine (f_set_own f s true _ _ _ h3).mono ?_
      rintro e w4 ⟨rfl, h4⟩
      go_wp2_with fail
      refine (f_set_peer f _ true _ _ _ h4).mono ?_
      rintro e w5 ⟨rfl, h5⟩
      have ok2 := (ok.own true).peer true
      have hv2 : Fl.view { s with own := true, peer := true } = #[.int .i64 s.vs, .int .i64 s.va, .int .i64 s.vr, .bool true, .bool true, .bool s.refused, .int .i64 s.q.sent, .int .i64 ((s.q.l.length : Int) - s.q.sent)] := rfl
      simp only [] at h5 ok2
      go_wp2_with fail
      refine (f_view_to h5 ok2 hv2).mono ?_
      rintro e w6 ⟨rfl, h6⟩
      have h7 := (h6.alloc (.cells #[.int .i64 s.vs, .int .i64 s.va, .int .i64 s.vr, .bool true, .bool true, .bool s.refused, .int .i64 s.q.sent, .int .i64 ((s.q.l.length : Int) - s.q.sent)] 57)).eq (star_left_comm _ _ _)
      have hc2 : Fl.come { s with own := true, peer := true } a2 = ({ s with own := true, peer := true }, 3) := by unfold Fl.come; rw [if_pos rfl]
      have ht2 : Fl.take { s with own := true, peer := true } = ({ s with own := true, peer := true }, 0, ⟨#[]⟩, false) := by unfold Fl.take; rw [if_pos (.inl rfl)]
      go_wp2_with fail
      refine (f_come_to h7 hc2).mono ?_
      rintro e w8 ⟨rfl, h8⟩
      go_wp2_with fail
      refine (f_take_to h8 ok2 ht2).mono ?_
      rintro e w9 ⟨rfl, h9⟩
      clear hc2 ht2
      go_upto_region 12 with fail
      generalize w6.heap.size = g at *
      have h10 := h9.eq (star_left_comm _ _ _)
      have k0 := (h10.cell 0).trans (show _ = some (Value.int .i64 s.vs) from rfl)
      have k1 := (h10.cell 1).trans (show _ = some (Value.int .i64 s.va) from rfl)
      have k2 := (h10.cell 2).trans (show _ = some (Value.int .i64 s.vr) from rfl)
      have k3 := (h10.cell 3).trans (show _ = some (Value.bool true) from rfl)
      have k4 := (h10.cell 4).trans (show _ = some (Value.bool true) from rfl)
      have k5 := (h10.cell 5).trans (show _ = some (Value.bool s.refused) from rfl)
      have k6 := (h10.cell 6).trans (show _ = some (Value.int .i64 s.q.sent) from rfl)
      have k7 := (h10.cell 7).trans (show _ = some (Value.int .i64 ((s.q.l.length : Int) - s.q.sent)) from rfl)
      clear h3 h4 h5 h6 h7 h8
      go_region_held3 (fun w' => w'.cell? ⟨g, 0, none⟩ = some (.int .i64 s.vs) ∧ w'.cell? ⟨g, 1, none⟩ = some (.int .i64 s.va) ∧ w'.cell? ⟨g, 2, none⟩ = some (.int .i64 s.vr) ∧ w'.cell? ⟨g, 3, none⟩ = some (.bool true) ∧ w'.cell? ⟨g, 4, none⟩ = some (.bool true) ∧ w'.cell? ⟨g, 5, none⟩ = some (.bool s.refused) ∧ w'.cell? ⟨g, 6, none⟩ = some (.int .i64 s.q.sent) ∧ w'.cell? ⟨g, 7, none⟩ = some (.int .i64 ((s.q.l.length : Int) - s.q.sent))) (first | (with_reducible exact ⟨k0, k1, k2, k3, k4, k5, k6, k7⟩) | (simp only [World.cell?_drew]; with_reducible exact ⟨k0, k1, k2, k3, k4, k5, k6, k7⟩) | (with_reducible exact ⟨m0, m1, m2, m3, m4, m5, m6, m7⟩) | (with_reducible exact ⟨n0, n1, n2, n3, n4, n5, n6, n7⟩) | go_keep) (first | (go_at_call 39; refine (f_wakes _ _ _ h10.drew).mono ?_; rintro e w11 ⟨rfl, h11⟩; have m0 := (h11.cell 0).trans (show _ = some (Value.int .i64 s.vs) from rfl); have m1 := (h11.cell 1).trans (show _ = some (Value.int .i64 s.va) from rfl); have m2 := (h11.cell 2).trans (show _ = some (Value.int .i64 s.vr) from rfl); have m3 := (h11.cell 3).trans (show _ = some (Value.bool true) from rfl); have m4 := (h11.cell 4).trans (show _ = some (Value.bool true) from rfl); have m5 := (h11.cell 5).trans (show _ = some (Value.bool s.refused) from rfl); have m6 := (h11.cell 6).trans (show _ = some (Value.int .i64 s.q.sent) from rfl); have m7 := (h11.cell 7).trans (show _ = some (Value.int .i64 ((s.q.l.length : Int) - s.q.sent)) from rfl)) | (go_at_call 36; refine (f_view_to (h11.eq (star_left_comm _ _ _)) ok2 hv2).mono ?_; rintro e w12 ⟨rfl, h12⟩; have h13 := h12.eq (star_left_comm _ _ _); have n0 := (h13.cell 0).trans (show _ = some (Value.int .i64 s.vs) from rfl); have n1 := (h13.cell 1).trans (show _ = some (Value.int .i64 s.va) from rfl); have n2 := (h13.cell 2).trans (show _ = some (Value.int .i64 s.vr) from rfl); have n3 := (h13.cell 3).trans (show _ = some (Value.bool true) from rfl); have n4 := (h13.cell 4).trans (show _ = some (Value.bool true) from rfl); have n5 := (h13.cell 5).trans (show _ = some (Value.bool s.refused) from rfl); have n6 := (h13.cell 6).trans (show _ = some (Value.int .i64 s.q.sent) from rfl); have n7 := (h13.cell 7).trans (show _ = some (Value.int .i64 ((s.q.l.length : Int) - s.q.sent)) from rfl)))
      clear k0 k1 k2 k3 k4 k5 k6 k7 m0 m1 m2 m3 m4 m5 m6 m7
      go_wp2_with fail
      refine (f_set_own f _ false _ _ _ h12).mono ?_
      rintro e w4 ⟨rfl, h4⟩
      go_wp2_with fail
      refine (f_set_peer f _ false _ _ _ h4).mono ?_
      rintro e w5 ⟨rfl, h5⟩
      have ok4 := (ok2.own false).peer false
      have h6 := h5.eq (star_left_comm _ _ _)
      have k0 := (h6.cell 0).trans (show _ = some (Value.int .i64 s.vs) from rfl)
      have k1 := (h6.cell 1).trans (show _ = some (Value.int .i64 s.va) from rfl)
      have k2 := (h6.cell 2).trans (show _ = some (Value.int .i64 s.vr) from rfl)
      have k3 := (h6.cell 3).trans (show _ = some (Value.bool true) from rfl)
      have k4 := (h6.cell 4).trans (show _ = some (Value.bool true) from rfl)
      have k5 := (h6.cell 5).trans (show _ = some (Value.bool s.refused) from rfl)
      have k6 := (h6.cell 6).trans (show _ = some (Value.int .i64 s.q.sent) from rfl)
      have k7 := (h6.cell 7).trans (show _ = some (Value.int .i64 ((s.q.l.length : Int) - s.q.sent)) from rfl)
      simp only [] at h5 ok4
      obtain ⟨n1, n2, n3, okq, hw, _⟩ := id ok
      have n4 := okq.sl
      have n6 := okq.len
      clear okq
      have hc4 : Fl.come { s with own := false, peer := false } s.vr = ({ s with own := false, peer := false, vr := (((s.vr : Int) + 1) % 128).toNat, refused := false }, 0) := by
        unfold Fl.come
        rw [if_neg (by simp), if_pos (by simp only []; omega)]
      have ok5 := ok4.come s.vr
      rw [hc4] at ok5
      simp only [] at ok5
      have hb : Fl.take { s with own := false, peer := false, vr := (((s.vr : Int) + 1) % 128).toNat, refused := false } = ((Fl.take { s with own := false, peer := false, vr := (((s.vr : Int) + 1) % 128).toNat, refused := false }).1, (Fl.take { s with own := false, peer := false, vr := (((s.vr : Int) + 1) % 128).toNat, refused := false }).2.1, (Fl.take { s with own := false, peer := false, vr := (((s.vr : Int) + 1) % 128).toNat, refused := false }).2.2.1, decide ((0 : Int) < (s.q.l.length : Int) - s.q.sent) && decide ((s.q.sent : Int) < max 1 (min a0 127))) := by
        have : (Fl.take { s with own := false, peer := false, vr := (((s.vr : Int) + 1) % 128).toNat, refused := false }).2.2.2 = (decide ((0 : Int) < (s.q.l.length : Int) - s.q.sent) && decide ((s.q.sent : Int) < max 1 (min a0 127))) := by
          unfold Fl.take roomOf
          rw [← K0.out]
          simp only []
          split
          · rename_i hh
            simp at hh ⊢
            omega
          · rename_i hh
            simp at hh ⊢
            omega
        rw [← this]
      have ok6 := ok5.take
      have z1 : IntKind.i64.wrap ((s.vr : Int) + 1) = (s.vr : Int) + 1 := by rw [IntKind.wrap_i64]; omega
      have z2 : Int.tmod ((s.vr : Int) + 1) 128 = ((s.vr : Int) + 1) % 128 := Int.tmod_eq_emod_of_nonneg (by omega)
      have z3 : (0 : Int) ≤ (s.vr : Int) + 1 := by omega
      have z4 : (0 : Int) ≤ ((s.vr : Int) + 1) % 128 ∧ ((s.vr : Int) + 1) % 128 < 128 := by omega
      clear hw
      have hv6 : Fl.view (Fl.take { s with own := false, peer := false, vr := (((s.vr : Int) + 1) % 128).toNat, refused := false }).1 = #[.int .i64 (Fl.take { s with own := false, peer := false, vr := (((s.vr : Int) + 1) % 128).toNat, refused := false }).1.vs, .int .i64 (Fl.take { s with own := false, peer := false, vr := (((s.vr : Int) + 1) % 128).toNat, refused := false }).1.va, .int .i64 (((s.vr : Int) + 1) % 128), .bool (Fl.take { s with own := false, peer := false, vr := (((s.vr : Int) + 1) % 128).toNat, refused := false }).1.peer, .bool (Fl.take { s with own := false, peer := false, vr := (((s.vr : Int) + 1) % 128).toNat, refused := false }).1.own, .bool (Fl.take { s with own := false, peer := false, vr := (((s.vr : Int) + 1) % 128).toNat, refused := false }).1.refused, .int .i64 (Fl.take { s with own := false, peer := false, vr := (((s.vr : Int) + 1) % 128).toNat, refused := false }).1.q.sent, .int .i64 (((Fl.take { s with own := false, peer := false, vr := (((s.vr : Int) + 1) % 128).toNat, refused := false }).1.q.l.length : Int) - (Fl.take { s with own := false, peer := false, vr := (((s.vr : Int) + 1) % 128).toNat, refused := false }).1.q.sent)] := by
        have x1 : ((((s.vr : Int) + 1) % 128).toNat : Int) = ((s.vr : Int) + 1) % 128 := by omega
        simp only [Fl.view, take_vr, x1]
      go_wp2_with fail
      refine (f_come_to h5 hc4).mono ?_
      rintro e w13 ⟨rfl, h13⟩
      go_wp2_with fail
      refine (f_take_to h13 ok5 hb).mono ?_
      rintro e w14 ⟨rfl, h15⟩
      generalize (Fl.take { s with own := false, peer := false, vr := (((s.vr : Int) + 1) % 128).toNat, refused := false }) = tk at *
      obtain ⟨s6, i6, d6, b6⟩ := tk
      simp only [] at *
      clear k0 k1 k2 k3 k4 k5 k6 k7
      have h14 := h15.eq (star_left_comm _ _ _)
      have k0 := (h14.cell 0).trans (show _ = some (Value.int .i64 s.vs) from rfl)
      have k1 := (h14.cell 1).trans (show _ = some (Value.int .i64 s.va) from rfl)
      have k2 := (h14.cell 2).trans (show _ = some (Value.int .i64 s.vr) from rfl)
      have k3 := (h14.cell 3).trans (show _ = some (Value.bool true) from rfl)
      have k4 := (h14.cell 4).trans (show _ = some (Value.bool true) from rfl)
      have k5 := (h14.cell 5).trans (show _ = some (Value.bool s.refused) from rfl)
      have k6 := (h14.cell 6).trans (show _ = some (Value.int .i64 s.q.sent) from rfl)
      have k7 := (h14.cell 7).trans (show _ = some (Value.int .i64 ((s.q.l.length : Int) - s.q.sent)) from rfl)
      by_cases b1 : (0 : Int) < (s.q.l.length : Int) - s.q.sent
      · have b3 : s.q.sent < s.q.l.length := by omega
        have b4 : (s.q.sent : Int) < (s.q.l.length : Int) := by omega
        by_cases b2 : (s.q.sent : Int) < max 1 (min a0 127)
        · simp only [b1, b2, decide_true, Bool.and_true]
          have b5 : decide ((s.q.sent : Int) < max 1 (min a0 127)) = true := by simpa using b2
          have H2 := Lib.hid b2
          clear b2
          go_upto_region 18 with fail
          go_region_held3 (fun w' => w'.cell? ⟨g, 0, none⟩ = some (.int .i64 s.vs) ∧ w'.cell? ⟨g, 1, none⟩ = some (.int .i64 s.va) ∧ w'.cell? ⟨g, 2, none⟩ = some (.int .i64 s.vr) ∧ w'.cell? ⟨g, 3, none⟩ = some (.bool true) ∧ w'.cell? ⟨g, 4, none⟩ = some (.bool true) ∧ w'.cell? ⟨g, 5, none⟩ = some (.bool s.refused) ∧ w'.cell? ⟨g, 6, none⟩ = some (.int .i64 s.q.sent) ∧ w'.cell? ⟨g, 7, none⟩ = some (.int .i64 ((s.q.l.length : Int) - s.q.sent))) (first | (with_reducible exact ⟨k0, k1, k2, k3, k4, k5, k6, k7⟩) | (simp only [World.cell?_drew]; with_reducible exact ⟨k0, k1, k2, k3, k4, k5, k6, k7⟩) | (with_reducible exact ⟨p0, p1, p2, p3, p4, p5, p6, p7⟩) | go_keep) (first | (go_at_call 36; refine (f_view_to h15.drew ok6 hv6).mono ?_; rintro e w16 ⟨rfl, h16⟩; have h17 := h16.eq (star_left_comm _ _ _); have p0 := (h17.cell 0).trans (show _ = some (Value.int .i64 s.vs) from rfl); have p1 := (h17.cell 1).trans (show _ = some (Value.int .i64 s.va) from rfl); have p2 := (h17.cell 2).trans (show _ = some (Value.int .i64 s.vr) from rfl); have p3 := (h17.cell 3).trans (show _ = some (Value.bool true) from rfl); have p4 := (h17.cell 4).trans (show _ = some (Value.bool true) from rfl); have p5 := (h17.cell 5).trans (show _ = some (Value.bool s.refused) from rfl); have p6 := (h17.cell 6).trans (show _ = some (Value.int .i64 s.q.sent) from rfl); have p7 := (h17.cell 7).trans (show _ = some (Value.int .i64 ((s.q.l.length : Int) - s.q.sent)) from rfl)))
          go_wp2
          all_goals
            go_ret
            refine ⟨?_, h17.drop.drop.drop.old0⟩
            first
              | (simp; done)
              | (have := H2.out; simp; omega)
        · simp only [b1, b2, decide_true, decide_false, Bool.and_false]
          have b5 : decide ((s.q.sent : Int) < max 1 (min a0 127)) = false := by simpa using b2
          have H2 := Lib.hid b2
          clear b2
          go_upto_region 18 with fail
          go_region_held3 (fun w' => w'.cell? ⟨g, 0, none⟩ = some (.int .i64 s.vs) ∧ w'.cell? ⟨g, 1, none⟩ = some (.int .i64 s.va) ∧ w'.cell? ⟨g, 2, none⟩ = some (.int .i64 s.vr) ∧ w'.cell? ⟨g, 3, none⟩ = some (.bool true) ∧ w'.cell? ⟨g, 4, none⟩ = some (.bool true) ∧ w'.cell? ⟨g, 5, none⟩ = some (.bool s.refused) ∧ w'.cell? ⟨g, 6, none⟩ = some (.int .i64 s.q.sent) ∧ w'.cell? ⟨g, 7, none⟩ = some (.int .i64 ((s.q.l.length : Int) - s.q.sent))) (first | (with_reducible exact ⟨k0, k1, k2, k3, k4, k5, k6, k7⟩) | (simp only [World.cell?_drew]; with_reducible exact ⟨k0, k1, k2, k3, k4, k5, k6, k7⟩) | (with_reducible exact ⟨p0, p1, p2, p3, p4, p5, p6, p7⟩) | go_keep) (first | (go_at_call 36; refine (f_view_to h15.drew ok6 hv6).mono ?_; rintro e w16 ⟨rfl, h16⟩; have h17 := h16.eq (star_left_comm _ _ _); have p0 := (h17.cell 0).trans (show _ = some (Value.int .i64 s.vs) from rfl); have p1 := (h17.cell 1).trans (show _ = some (Value.int .i64 s.va) from rfl); have p2 := (h17.cell 2).trans (show _ = some (Value.int .i64 s.vr) from rfl); have p3 := (h17.cell 3).trans (show _ = some (Value.bool true) from rfl); have p4 := (h17.cell 4).trans (show _ = some (Value.bool true) from rfl); have p5 := (h17.cell 5).trans (show _ = some (Value.bool s.refused) from rfl); have p6 := (h17.cell 6).trans (show _ = some (Value.int .i64 s.q.sent) from rfl); have p7 := (h17.cell 7).trans (show _ = some (Value.int .i64 ((s.q.l.length : Int) - s.q.sent)) from rfl)))
          go_wp2
          all_goals
            go_ret
            refine ⟨?_, h17.drop.drop.drop.old0⟩
            first
              | (simp; done)
              | (have := H2.out; simp; omega)
      · have b3 : ¬ s.q.sent < s.q.l.length := by omega
        have b4 : ¬ (s.q.sent : Int) < (s.q.l.length : Int) := by omega
        have b5 : decide ((s.q.sent : Int) < (s.q.l.length : Int)) = false := by simpa using b4
        have b6 : decide (s.q.sent < s.q.l.length) = false := by simpa using b3
        have b7 : decide ((0 : Int) < (s.q.l.length : Int) - s.q.sent) = false := by simpa using b1
        have H2 := Lib.hid b4
        simp only [b1, decide_false, Bool.false_and]
        go_upto_region 18 with fail
        refine wp_region_held_drew (S := (fun w' => w'.cell? ⟨g, 0, none⟩ = some (.int .i64 s.vs) ∧ w'.cell? ⟨g, 1, none⟩ = some (.int .i64 s.va) ∧ w'.cell? ⟨g, 2, none⟩ = some (.int .i64 s.vr) ∧ w'.cell? ⟨g, 3, none⟩ = some (.bool true) ∧ w'.cell? ⟨g, 4, none⟩ = some (.bool true) ∧ w'.cell? ⟨g, 5, none⟩ = some (.bool s.refused) ∧ w'.cell? ⟨g, 6, none⟩ = some (.int .i64 s.q.sent) ∧ w'.cell? ⟨g, 7, none⟩ = some (.int .i64 ((s.q.l.length : Int) - s.q.sent)))) (by kernel_rfl) ?_ (fun hHeld => ?_)
        · simp only [World.cell?_drew]
          with_reducible exact ⟨k0, k1, k2, k3, k4, k5, k6, k7⟩
        refine wpAnyH_take (i := 0) (oi := { dst := some 79, op := Op.move (Operand.tmp 12), type := 59, pos := "law.go:190", after := #[], guard := none }) (v := ?_) rfl (by kernel_rfl) (by kernel_rfl) (by kernel_rfl) (fun _ _ _ h => h) (Or.inl ⟨by rfl, ?_⟩) (by assumption) ?_
        rotate_left 1
        · intro w hSw
          try dsimp only at hSw
          go_simp
          try with_reducible rfl
        try simp only [Act.put, List.setIfInBounds_toArray, List.set_cons_zero, List.set_cons_succ]
        refine wpAnyH_take (i := 1) (oi := { dst := some 80, op := Op.binOp BinOp.eql 59 (Operand.tmp 79) (Operand.const (Value.int IntKind.i64 0)) 59, type := 4, pos := "law.go:190", after := #[{ on := 0, ground := Ground.data }], guard := none }) (v := ?_) rfl (by kernel_rfl) (by kernel_rfl) (by kernel_rfl) (fun _ _ _ h => h) (Or.inl ⟨by rfl, ?_⟩) (by assumption) ?_
        rotate_left 1
        · intro w hSw
          try dsimp only at hSw
          go_simp
          try with_reducible rfl
        try simp only [Act.put, List.setIfInBounds_toArray, List.set_cons_zero, List.set_cons_succ]
        refine wpAnyH_take (i := 2) (oi := { dst := some 81, op := Op.move (Operand.tmp 80), type := 4, pos := "law.go:190", after := #[{ on := 1, ground := Ground.data }], guard := none }) (v := ?_) rfl (by kernel_rfl) (by kernel_rfl) (by kernel_rfl) (fun _ _ _ h => h) (Or.inl ⟨by rfl, ?_⟩) (by assumption) ?_
        rotate_left 1
        · intro w hSw
          try dsimp only at hSw
          go_simp
          try with_reducible rfl
        try simp only [Act.put, List.setIfInBounds_toArray, List.set_cons_zero, List.set_cons_succ]
        refine wpAnyH_take (i := 3) (oi := { dst := some 82, op := Op.move (Operand.tmp 7), type := 50, pos := "law.go:190", after := #[{ on := 2, ground := Ground.guard }], guard := some (2, true) }) (v := ?_) rfl (by kernel_rfl) (by kernel_rfl) (by kernel_rfl) (fun _ _ _ h => h) (Or.inl ⟨by rfl, ?_⟩) (by assumption) ?_
        rotate_left 1
        · intro w hSw
          try dsimp only at hSw
          go_simp
          try with_reducible rfl
        try simp only [Act.put, List.setIfInBounds_toArray, List.set_cons_zero, List.set_cons_succ]
        refine wpAnyH_take (i := 6) (oi := { dst := some 85, op := Op.fieldAddr 57 (Operand.tmp 11) 2, type := 0, pos := "law.go:190", after := #[{ on := 2, ground := Ground.guard }], guard := some (2, true) }) (v := ?_) rfl (by kernel_rfl) (by kernel_rfl) (by kernel_rfl) (fun _ _ _ h => h) (Or.inl ⟨by rfl, ?_⟩) (by assumption) ?_
        rotate_left 1
        · intro w hSw
          try dsimp only at hSw
          go_simp
          try with_reducible rfl
        try simp only [Act.put, List.setIfInBounds_toArray, List.set_cons_zero, List.set_cons_succ]
        refine wpAnyH_take (i := 7) (oi := { dst := some 86, op := Op.load 3 (Operand.tmp 85), type := 3, pos := "law.go:190", after := #[{ on := 6, ground := Ground.data }, { on := 2, ground := Ground.guard }], guard := some (2, true) }) (v := ?_) rfl (by kernel_rfl) (by kernel_rfl) (by kernel_rfl) (fun _ _ _ h => h) (Or.inl ⟨by rfl, ?_⟩) (by assumption) ?_
        rotate_left 1
        · intro w hSw
          try dsimp only at hSw
          go_simp
          try with_reducible rfl
        try simp only [Act.put, List.setIfInBounds_toArray, List.set_cons_zero, List.set_cons_succ]
        refine wpAnyH_take (i := 8) (oi := { dst := some 87, op := Op.binOp BinOp.add 3 (Operand.tmp 86) (Operand.const (Value.int IntKind.i64 1)) 3, type := 3, pos := "law.go:190", after := #[{ on := 7, ground := Ground.data }, { on := 2, ground := Ground.guard }], guard := some (2, true) }) (v := ?_) rfl (by kernel_rfl) (by kernel_rfl) (by kernel_rfl) (fun _ _ _ h => h) (Or.inl ⟨by rfl, ?_⟩) (by assumption) ?_
        rotate_left 1
        · intro w hSw
          try dsimp only at hSw
          go_simp
          try with_reducible rfl
        try simp only [Act.put, List.setIfInBounds_toArray, List.set_cons_zero, List.set_cons_succ]
        refine wpAnyH_take (i := 9) (oi := { dst := some 88, op := Op.binOp BinOp.rem 3 (Operand.tmp 87) (Operand.const (Value.int IntKind.i64 128)) 3, type := 3, pos := "law.go:190", after := #[{ on := 8, ground := Ground.data }, { on := 2, ground := Ground.guard }], guard := some (2, true) }) (v := ?_) rfl (by kernel_rfl) (by kernel_rfl) (by kernel_rfl) (fun _ _ _ h => h) (Or.inl ⟨by rfl, ?_⟩) (by assumption) ?_
        rotate_left 1
        · intro w hSw
          try dsimp only at hSw
          go_simp
          try with_reducible rfl
        try simp only [Act.put, List.setIfInBounds_toArray, List.set_cons_zero, List.set_cons_succ]
        refine wpAnyH_ready (rs := [4]) (by kernel_rfl) (by simp) ?_
        refine AllReadyH.cons (o := { dst := some 83, op := Op.call { callee := Callee.value (Operand.func 36), args := #[Operand.tmp 82], argTypes := #[50] }, type := 57, pos := "law.go:190", after := #[{ on := 3, ground := Ground.data }, { on := 2, ground := Ground.chain }, { on := 2, ground := Ground.guard }], guard := some (2, true) }) rfl (fun K hK => ?_) ?_
        rotate_left 1
        · exact AllReadyH.nil
        go_simp
        go_at_call 36
        refine (f_view_to h15.drew ok6 hv6).mono ?_
        rintro e w16 ⟨rfl, h16⟩
        have h17 := h16.eq (star_left_comm _ _ _)
        have p0 := (h17.cell 0).trans (show _ = some (Value.int .i64 s.vs) from rfl)
        have p1 := (h17.cell 1).trans (show _ = some (Value.int .i64 s.va) from rfl)
        have p2 := (h17.cell 2).trans (show _ = some (Value.int .i64 s.vr) from rfl)
        have p3 := (h17.cell 3).trans (show _ = some (Value.bool true) from rfl)
        have p4 := (h17.cell 4).trans (show _ = some (Value.bool true) from rfl)
        have p5 := (h17.cell 5).trans (show _ = some (Value.bool s.refused) from rfl)
        have p6 := (h17.cell 6).trans (show _ = some (Value.int .i64 s.q.sent) from rfl)
        have p7 := (h17.cell 7).trans (show _ = some (Value.int .i64 ((s.q.l.length : Int) - s.q.sent)) from rfl)
        go_simp
        refine hK.out _ _ ⟨p0, p1, p2, p3, p4, p5, p6, p7⟩ (fun hHeld => ?_)
        clear hK K
        try simp only [Act.put, List.setIfInBounds_toArray, List.set_cons_zero, List.set_cons_succ]
        refine wpAnyH_take (i := 5) (oi := { dst := some 84, op := Op.field 57 (Operand.tmp 83) 2, type := 3, pos := "law.go:190", after := #[{ on := 4, ground := Ground.data }, { on := 2, ground := Ground.guard }], guard := some (2, true) }) (v := ?_) rfl (by kernel_rfl) (by kernel_rfl) (by kernel_rfl) (fun _ _ _ h => h) (Or.inl ⟨by rfl, ?_⟩) (by assumption) ?_
        rotate_left 1
        · intro w hSw
          try dsimp only at hSw
          go_simp
          try with_reducible rfl
        try simp only [Act.put, List.setIfInBounds_toArray, List.set_cons_zero, List.set_cons_succ]
        refine wpAnyH_take (i := 10) (oi := { dst := some 89, op := Op.binOp BinOp.eql 3 (Operand.tmp 84) (Operand.tmp 88) 3, type := 4, pos := "law.go:190", after := #[{ on := 5, ground := Ground.data }, { on := 9, ground := Ground.data }, { on := 2, ground := Ground.guard }], guard := some (2, true) }) (v := ?_) rfl (by kernel_rfl) (by kernel_rfl) (by kernel_rfl) (fun _ _ _ h => h) (Or.inl ⟨by rfl, ?_⟩) (by assumption) ?_
        rotate_left 1
        · intro w hSw
          try dsimp only at hSw
          go_simp
          try with_reducible rfl
        try simp only [Act.put, List.setIfInBounds_toArray, List.set_cons_zero, List.set_cons_succ]
        refine wpAnyH_take (i := 11) (oi := { dst := some 90, op := Op.pick (Operand.tmp 81) (Operand.tmp 89) (Operand.const (Value.bool false)), type := 4, pos := "law.go:190", after := #[{ on := 2, ground := Ground.data }, { on := 10, ground := Ground.data }], guard := none }) (v := ?_) rfl (by kernel_rfl) (by kernel_rfl) (by kernel_rfl) (fun _ _ _ h => h) (Or.inl ⟨by rfl, ?_⟩) (by assumption) ?_
        rotate_left 1
        · intro w hSw
          try dsimp only at hSw
          go_simp
          try with_reducible rfl
        try simp only [Act.put, List.setIfInBounds_toArray, List.set_cons_zero, List.set_cons_succ]
        refine wpAnyH_take (i := 12) (oi := { dst := some 91, op := Op.move (Operand.tmp 90), type := 4, pos := "law.go:190", after := #[{ on := 11, ground := Ground.data }, { on := 4, ground := Ground.chain }], guard := none }) (v := ?_) rfl (by kernel_rfl) (by kernel_rfl) (by kernel_rfl) (fun _ _ _ h => h) (Or.inl ⟨by rfl, ?_⟩) (by assumption) ?_
        rotate_left 1
        · intro w hSw
          try dsimp only at hSw
          go_simp
          try with_reducible rfl
        try simp only [Act.put, List.setIfInBounds_toArray, List.set_cons_zero, List.set_cons_succ]
        refine wpAnyH_take (i := 13) (oi := { dst := some 92, op := Op.move (Operand.tmp 15), type := 4, pos := "law.go:190", after := #[{ on := 12, ground := Ground.guard }], guard := some (12, true) }) (v := ?_) rfl (by kernel_rfl) (by kernel_rfl) (by kernel_rfl) (fun _ _ _ h => h) (Or.inl ⟨by rfl, ?_⟩) (by assumption) ?_
        rotate_left 1
        · intro w hSw
          try dsimp only at hSw
          go_simp
          try with_reducible rfl
        try simp only [Act.put, List.setIfInBounds_toArray, List.set_cons_zero, List.set_cons_succ]
        refine wpAnyH_take (i := 14) (oi := { dst := some 93, op := Op.fieldAddr 57 (Operand.tmp 11) 7, type := 0, pos := "law.go:190", after := #[{ on := 12, ground := Ground.guard }], guard := some (12, true) }) (v := ?_) rfl (by kernel_rfl) (by kernel_rfl) (by kernel_rfl) (fun _ _ _ h => h) (Or.inl ⟨by rfl, ?_⟩) (by assumption) ?_
        rotate_left 1
        · intro w hSw
          try dsimp only at hSw
          go_simp
          try with_reducible rfl
        try simp only [Act.put, List.setIfInBounds_toArray, List.set_cons_zero, List.set_cons_succ]
        refine wpAnyH_take (i := 15) (oi := { dst := some 94, op := Op.load 3 (Operand.tmp 93), type := 3, pos := "law.go:190", after := #[{ on := 14, ground := Ground.data }, { on := 12, ground := Ground.guard }], guard := some (12, true) }) (v := ?_) rfl (by kernel_rfl) (by kernel_rfl) (by kernel_rfl) (fun _ _ _ h => h) (Or.inl ⟨by rfl, ?_⟩) (by assumption) ?_
        rotate_left 1
        · intro w hSw
          try dsimp only at hSw
          go_simp
          try with_reducible rfl
        try simp only [Act.put, List.setIfInBounds_toArray, List.set_cons_zero, List.set_cons_succ]
        refine wpAnyH_take (i := 16) (oi := { dst := some 95, op := Op.binOp BinOp.gtr 3 (Operand.tmp 94) (Operand.const (Value.int IntKind.i64 0)) 3, type := 4, pos := "law.go:190", after := #[{ on := 15, ground := Ground.data }, { on := 12, ground := Ground.guard }], guard := some (12, true) }) (v := ?_) rfl (by kernel_rfl) (by kernel_rfl) (by kernel_rfl) (fun _ _ _ h => h) (Or.inl ⟨by rfl, ?_⟩) (by assumption) ?_
        rotate_left 1
        · intro w hSw
          try dsimp only at hSw
          go_simp
          try with_reducible rfl
        try simp only [Act.put, List.setIfInBounds_toArray, List.set_cons_zero, List.set_cons_succ]
        refine wpAnyH_take (i := 17) (oi := { dst := some 96, op := Op.move (Operand.tmp 95), type := 4, pos := "law.go:190", after := #[{ on := 16, ground := Ground.data }, { on := 12, ground := Ground.chain }, { on := 12, ground := Ground.guard }], guard := some (12, true) }) (v := ?_) rfl (by kernel_rfl) (by kernel_rfl) (by kernel_rfl) (fun _ _ _ h => h) (Or.inl ⟨by rfl, ?_⟩) (by assumption) ?_
        rotate_left 1
        · intro w hSw
          try dsimp only at hSw
          go_simp
          try with_reducible rfl
        try simp only [Act.put, List.setIfInBounds_toArray, List.set_cons_zero, List.set_cons_succ]
        refine wpAnyH_take (i := 18) (oi := { dst := some 97, op := Op.fieldAddr 57 (Operand.tmp 11) 6, type := 0, pos := "law.go:190", after := #[{ on := 17, ground := Ground.guard }], guard := some (17, true) }) (v := undef) rfl (by kernel_rfl) (by kernel_rfl) (by kernel_rfl) (fun _ _ _ h => h) (Or.inr ⟨by rfl, rfl⟩) (by assumption) ?_
        try simp only [Act.put, List.setIfInBounds_toArray, List.set_cons_zero, List.set_cons_succ]
        refine wpAnyH_take (i := 19) (oi := { dst := some 98, op := Op.load 3 (Operand.tmp 97), type := 3, pos := "law.go:190", after := #[{ on := 18, ground := Ground.data }, { on := 17, ground := Ground.guard }], guard := some (17, true) }) (v := undef) rfl (by kernel_rfl) (by kernel_rfl) (by kernel_rfl) (fun _ _ _ h => h) (Or.inr ⟨by rfl, rfl⟩) (by assumption) ?_
        try simp only [Act.put, List.setIfInBounds_toArray, List.set_cons_zero, List.set_cons_succ]
        refine wpAnyH_take (i := 20) (oi := { dst := some 99, op := Op.move (Operand.tmp 0), type := 3, pos := "law.go:190", after := #[{ on := 17, ground := Ground.guard }], guard := some (17, true) }) (v := undef) rfl (by kernel_rfl) (by kernel_rfl) (by kernel_rfl) (fun _ _ _ h => h) (Or.inr ⟨by rfl, rfl⟩) (by assumption) ?_
        try simp only [Act.put, List.setIfInBounds_toArray, List.set_cons_zero, List.set_cons_succ]
        refine wpAnyH_take (i := 21) (oi := { dst := some 100, op := Op.call { callee := Callee.builtin Builtin.min, args := #[Operand.tmp 99, Operand.const (Value.int IntKind.i64 127)], argTypes := #[3, 3] }, type := 3, pos := "law.go:190", after := #[{ on := 20, ground := Ground.data }, { on := 17, ground := Ground.guard }], guard := some (17, true) }) (v := undef) rfl (by kernel_rfl) (by kernel_rfl) (by kernel_rfl) (fun _ _ _ h => h) (Or.inr ⟨by rfl, rfl⟩) (by assumption) ?_
        try simp only [Act.put, List.setIfInBounds_toArray, List.set_cons_zero, List.set_cons_succ]
        refine wpAnyH_take (i := 22) (oi := { dst := some 101, op := Op.call { callee := Callee.builtin Builtin.max, args := #[Operand.const (Value.int IntKind.i64 1), Operand.tmp 100], argTypes := #[3, 3] }, type := 3, pos := "law.go:190", after := #[{ on := 21, ground := Ground.data }, { on := 17, ground := Ground.guard }], guard := some (17, true) }) (v := undef) rfl (by kernel_rfl) (by kernel_rfl) (by kernel_rfl) (fun _ _ _ h => h) (Or.inr ⟨by rfl, rfl⟩) (by assumption) ?_
        try simp only [Act.put, List.setIfInBounds_toArray, List.set_cons_zero, List.set_cons_succ]
        refine wpAnyH_take (i := 23) (oi := { dst := some 102, op := Op.binOp BinOp.lss 3 (Operand.tmp 98) (Operand.tmp 101) 3, type := 4, pos := "law.go:190", after := #[{ on := 19, ground := Ground.data }, { on := 22, ground := Ground.data }, { on := 17, ground := Ground.guard }], guard := some (17, true) }) (v := undef) rfl (by kernel_rfl) (by kernel_rfl) (by kernel_rfl) (fun _ _ _ h => h) (Or.inr ⟨by rfl, rfl⟩) (by assumption) ?_
        try simp only [Act.put, List.setIfInBounds_toArray, List.set_cons_zero, List.set_cons_succ]
        refine wpAnyH_take (i := 24) (oi := { dst := some 103, op := Op.pick (Operand.tmp 96) (Operand.tmp 102) (Operand.const (Value.bool false)), type := 4, pos := "law.go:190", after := #[{ on := 17, ground := Ground.data }, { on := 23, ground := Ground.data }, { on := 12, ground := Ground.guard }], guard := some (12, true) }) (v := ?_) rfl (by kernel_rfl) (by kernel_rfl) (by kernel_rfl) (fun _ _ _ h => h) (Or.inl ⟨by rfl, ?_⟩) (by assumption) ?_
        rotate_left 1
        · intro w hSw
          try dsimp only at hSw
          go_simp
          try with_reducible rfl
        try simp only [Act.put, List.setIfInBounds_toArray, List.set_cons_zero, List.set_cons_succ]
        refine wpAnyH_take (i := 25) (oi := { dst := some 104, op := Op.binOp BinOp.eql 4 (Operand.tmp 92) (Operand.tmp 103) 4, type := 4, pos := "law.go:190", after := #[{ on := 13, ground := Ground.data }, { on := 24, ground := Ground.data }, { on := 12, ground := Ground.guard }], guard := some (12, true) }) (v := ?_) rfl (by kernel_rfl) (by kernel_rfl) (by kernel_rfl) (fun _ _ _ h => h) (Or.inl ⟨by rfl, ?_⟩) (by assumption) ?_
        rotate_left 1
        · intro w hSw
          try dsimp only at hSw
          go_simp
          try with_reducible rfl
        try simp only [Act.put, List.setIfInBounds_toArray, List.set_cons_zero, List.set_cons_succ]
        refine wpAnyH_take (i := 26) (oi := { dst := some 105, op := Op.pick (Operand.tmp 91) (Operand.tmp 104) (Operand.const (Value.bool false)), type := 4, pos := "law.go:190", after := #[{ on := 12, ground := Ground.data }, { on := 25, ground := Ground.data }], guard := none }) (v := ?_) rfl (by kernel_rfl) (by kernel_rfl) (by kernel_rfl) (fun _ _ _ h => h) (Or.inl ⟨by rfl, ?_⟩) (by assumption) ?_
        rotate_left 1
        · intro w hSw
          try dsimp only at hSw
          go_simp
          try with_reducible rfl
        try simp only [Act.put, List.setIfInBounds_toArray, List.set_cons_zero, List.set_cons_succ]
        refine wpAnyH_take (i := 27) (oi := { dst := some 6, op := Op.assign (Operand.tmp 105), type := 4, pos := "law.go:190", after := #[{ on := 26, ground := Ground.data }, { on := 17, ground := Ground.chain }, { on := 0, ground := Ground.phase }, { on := 1, ground := Ground.phase }, { on := 2, ground := Ground.phase }, { on := 3, ground := Ground.phase }, { on := 4, ground := Ground.phase }, { on := 5, ground := Ground.phase }, { on := 6, ground := Ground.phase }, { on := 7, ground := Ground.phase }, { on := 8, ground := Ground.phase }, { on := 9, ground := Ground.phase }, { on := 10, ground := Ground.phase }, { on := 11, ground := Ground.phase }, { on := 12, ground := Ground.phase }, { on := 13, ground := Ground.phase }, { on := 14, ground := Ground.phase }, { on := 15, ground := Ground.phase }, { on := 16, ground := Ground.phase }, { on := 17, ground := Ground.phase }, { on := 18, ground := Ground.phase }, { on := 19, ground := Ground.phase }, { on := 20, ground := Ground.phase }, { on := 21, ground := Ground.phase }, { on := 22, ground := Ground.phase }, { on := 23, ground := Ground.phase }, { on := 24, ground := Ground.phase }, { on := 25, ground := Ground.phase }, { on := 26, ground := Ground.phase }], guard := none }) (v := ?_) rfl (by kernel_rfl) (by kernel_rfl) (by kernel_rfl) (fun _ _ _ h => h) (Or.inl ⟨by rfl, ?_⟩) (by assumption) ?_
        rotate_left 1
        · intro w hSw
          try dsimp only at hSw
          go_simp
          try with_reducible rfl
        try simp only [Act.put, List.setIfInBounds_toArray, List.set_cons_zero, List.set_cons_succ]
        refine wpAnyH_done (by kernel_rfl) ?_ _
        go_wp2
        go_ret
        exact ⟨by simp, h17.drop.drop.drop.old0⟩
end Go.Proofs.Ytopjbiiddaoklaa
