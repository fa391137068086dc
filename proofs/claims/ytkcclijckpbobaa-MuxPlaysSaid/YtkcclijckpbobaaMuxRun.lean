/- The mux's laws: run: both behind calls. -/
import Derived.Test.YtkcclijckpbobaaWMuxNil
import Derived.BigQuiet
namespace Go.Proofs.Ytkcclijckpbobaa
open Go.RowKit Go.Sort

theorem Rel.len {x : Mx} {L : List En} (h : Rel x L) : L.length = x.l.length := h.perm.length_eq
theorem Ok.short {x : Mx} (ok : x.Ok) : x.l.length ≤ 128 := by have := ok.len; have := ok.m2; omega
theorem Ok.new (n : Int) : Mx.Ok ⟨mostOf n, []⟩ := ⟨by simp, by simp, by simp [mostOf]; omega, by simp only [mostOf]; omega, by simp only [mostOf]; omega⟩

/-- who has a link is a number -/
def WfId (x : Mx) : Prop := ∀ p ∈ x.l, (Lit.int .i64 p.2).wf = true
theorem WfId.leave {x : Mx} (h : WfId x) (k : Lk) : WfId (x.leave k).1 := fun p hp => h p (mdel_sub hp)
theorem WfId.drop {x : Mx} (h : WfId x) (id : Int) : WfId (x.drop id).1 := fun p hp => h p (List.mem_filter.1 hp).1
theorem WfId.join {x : Mx} (h : WfId x) (k : Lk) (id : Int) (hi : (Lit.int .i64 id).wf = true) : WfId (x.join k id).1 := by
  unfold Mx.join
  by_cases h1 : k.1 < 0 ∨ 63 < k.1 ∨ k.2 < 0 ∨ 126 < k.2
  · rw [if_pos h1]; exact h
  rw [if_neg h1]
  by_cases h2 : (mlook x.l k).isSome = true
  · rw [if_pos h2]; exact h
  rw [if_neg h2]
  by_cases h3 : x.most ≤ x.l.length
  · rw [if_pos h3]; exact h
  rw [if_neg h3]
  intro p hp
  simp only [] at hp
  rw [mput_newL (by simpa using h2), List.mem_append] at hp
  rcases hp with hp | hp
  · exact h p hp
  · simp at hp; subst hp; exact hi


set_option maxRecDepth 100000 in
set_option maxHeartbeats 3200000 in
theorem mx_run (most : Int) (a0 : Option Addr) (len0 cap0 : Nat) (w W : World) (R : HP) (w0 : (Sh.slice MASh).ok w [.slice a0 len0 cap0]) (hb0 : ∀ (A : HP) (wr : World), St w wr (A * R) → Below w.heap.size w wr) (h : St w W R) :
    Calls Try.prog 7 #[.int .i64 most, .slice a0 len0 cap0] W fun e w' => ∃ m r x L, e = .returned (.tuple #[ptrX m, ptrX r, .bool true]) ∧ Mx.Ok x ∧ Rel x L ∧ x.most = mostOf most ∧ WfId x ∧ St w w' (XAt m x * (MRef r (mostOf most) L * R)) := by
  obtain ⟨l1, l2, l3⟩ := ma_script w0
  unfold maxLen at l2
  have HB := Lib.hid hb0
  clear w0 hb0
  obtain ⟨mo, hmo⟩ : ∃ mo, mostOf most = mo := ⟨_, rfl⟩
  rw [hmo]
  go_enter Try.func7, Try.ntmps7
  go_wp2_with fail
  refine (x_new most _ _ _ h).mono ?_
  rintro e w1 ⟨m, rfl, h1⟩
  go_wp2_with fail
  refine (mr_new most _ _ _ h1).mono ?_
  rintro e wz ⟨r, rfl, h2⟩
  have h3 := h2.f2
  have hok := Ok.new most
  rw [hmo] at h3 hok
  have HOK := Lib.hid hok
  clear h h1 h2 hok hmo
  go_upto_region 3 with fail
  go_cut [21, 22, 23] (fun s33 s34 s35 wx => ∃ n : Nat, n ≤ len0 ∧ n ≤ 150 ∧ s33 = .slice a0 n cap0 ∧ s34 = .int .i64 n ∧ s35 = .int .i64 0 ∧ wz = wx)
  case first =>
    go_wp2
    all_goals (go_meet; first | exact ⟨len0, Nat.le_refl _, by omega, rfl, rfl, rfl, rfl⟩ | exact ⟨150, by omega, by omega, rfl, rfl, rfl, rfl⟩ | (refine ⟨(min (len0 : Int) 150).toNat, by omega, by omega, ?_, ?_, rfl, rfl⟩ <;> (first | rfl | (congr 1; omega) | trace_state)))
  case rest =>
    obtain ⟨n, hn, hn150, rfl, rfl, rfl, rfl⟩ := hcut
    go_wp2
    go_loopw [9, 23] (fun s9 i wr => ∃ (k : Nat) (x : Mx) (L : List En), k ≤ n ∧ s9 = .bool true ∧ i = .int .i64 k ∧ Hid (Mx.Ok x ∧ Rel x L ∧ x.most = mo ∧ WfId x) ∧ St w wr (XAt m x * (MRef r mo L * R))) (fun _ i _ => n - (intOf i).toNat)
    case atStart => exact ⟨0, _, [], by omega, rfl, rfl, Lib.hid ⟨HOK.out, Rel.nil mo, rfl, by intro p hp; cases hp⟩, h3⟩
    case round =>
      clear h3
      obtain ⟨k, x, L, hk, rfl, rfl, HS, h6⟩ := hrel
      by_cases hlt : k < n
      · obtain ⟨b, off, rfl, hb, hi⟩ := l3 (by omega)
        obtain ⟨y, yok, c0, c1, c2, c3⟩ := hi k (by omega)
        obtain ⟨xd, xs, xt, xi⟩ := y
        simp only [] at c0 c1 c2 c3
        have hbel := HB.out (XAt m x * MRef r mo L) wr (h6.eq (by ac_rfl))
        have d0 := (hbel.cell (p := ⟨b, off + k * 4, none⟩) hb).trans c0
        have d1 := (hbel.cell (p := ⟨b, off + k * 4 + 1, none⟩) hb).trans c1
        have d2 := (hbel.cell (p := ⟨b, off + k * 4 + 2, none⟩) hb).trans c2
        have d3 := (hbel.cell (p := ⟨b, off + k * 4 + 3, none⟩) hb).trans c3
        clear hi l3 c0 c1 c2 c3 hbel
        have hk2 : okL (xs, xt) := ⟨yok.1, yok.2.1⟩
        have h7 := (h6.alloc (.cells #[.int .i64 xd, .int .i64 xs, .int .i64 xt, .int .i64 xi] 29)).alloc (.cells #[.int .i64 xs, .int .i64 xt] 38)
        simp only [World.size_alloc] at h7
        go_upto_block 2 with fail
        generalize (wr.alloc _).alloc _ = wa at *
        generalize wr.heap.size = ga at *
        obtain ⟨gk, hgk⟩ : ∃ gk, gk = ga + 1 := ⟨_, rfl⟩
        rw [← hgk] at h7 ⊢
        clear hgk h6 d0 d1 d2 d3
        have e0 := h7.cell
        have f0 := h7.f2.cell
        have hxl := Ok.short HS.out.1
        have hLl := HS.out.2.1.len
        have hL : L.length ≤ 100000 := by omega
        have hl : x.l.length ≤ 100000 := by omega
        obtain ⟨ok, hR, hmo, hwf⟩ := HS.out
        have w1 := hwf.leave (xs, xt)
        have w2 := hwf.drop xi
        have w3 := hwf.join (xs, xt) xi yok.2.2.1
        obtain ⟨v1, v2, v3, v4⟩ := hR.leave ok (xs, xt)
        obtain ⟨u1, u2, u3, u4⟩ := hR.drop ok xi
        obtain ⟨t1, t2, t3, t4⟩ := hR.join ok (xs, xt) xi
        rw [hmo] at v4 u4 t4 t1 t2
        obtain ⟨lx, hlx⟩ : ∃ lx, (x.leave (xs, xt)).1 = lx := ⟨_, rfl⟩
        obtain ⟨lb, hlb⟩ : ∃ lb, (x.leave (xs, xt)).2 = lb := ⟨_, rfl⟩
        obtain ⟨lL, hlL⟩ : ∃ lL, (rleave L (xs, xt)).1 = lL := ⟨_, rfl⟩
        obtain ⟨jx, hjx⟩ : ∃ jx, (x.join (xs, xt) xi).1 = jx := ⟨_, rfl⟩
        obtain ⟨jb, hjb⟩ : ∃ jb, (x.join (xs, xt) xi).2 = jb := ⟨_, rfl⟩
        obtain ⟨jL, hjL⟩ : ∃ jL, (rjoin mo L (xs, xt) xi).1 = jL := ⟨_, rfl⟩
        obtain ⟨dx, hdx⟩ : ∃ dx, (x.drop xi).1 = dx := ⟨_, rfl⟩
        obtain ⟨db, hdb⟩ : ∃ db : Int, ((x.drop xi).2 : Int) = db := ⟨_, rfl⟩
        obtain ⟨dL, hdL⟩ : ∃ dL, (rdrop L xi).1 = dL := ⟨_, rfl⟩
        have hA1 := fun (w5 : World) (R : HP) (h : St w w5 (XAt m x * R)) => x_leave_to h hk2 (show x.leave (xs, xt) = (lx, lb) by rw [← hlx, ← hlb])
        have hA2 := fun (w5 : World) (R : HP) (h : St w w5 (MRef r mo L * R)) => mr_leave_to h hL (show rleave L (xs, xt) = (lL, lb) by rw [← hlL, ← hlb, ← v1])
        have hB1 := fun (w5 : World) (R : HP) (h : St w w5 (XAt m x * R)) => x_drop_to h hl hdx hdb
        have hB2 := fun (w5 : World) (R : HP) (h : St w w5 (MRef r mo L * R)) => mr_drop_to h hL hdL (show ((rdrop L xi).2 : Int) = db by rw [u1]; exact hdb)
        have hC1 := fun (w5 : World) (R : HP) (h : St w w5 (XAt m x * R)) => x_join_to h hk2 hl (show x.join (xs, xt) xi = (jx, jb) by rw [← hjx, ← hjb])
        have hC2 := fun (w5 : World) (R : HP) (h : St w w5 (MRef r mo L * R)) => mr_join_to h hL (show rjoin mo L (xs, xt) xi = (jL, jb) by rw [← hjL, ← hjb, ← t1])
        rw [hlx, hlL] at v2
        rw [hlx] at v3 v4 w1
        rw [hdx, hdL] at u2
        rw [hdx] at u3 u4 w2
        rw [hjx, hjL] at t2
        rw [hjx] at t3 t4 w3
        have A1 := Lib.hid hA1
        have A2 := Lib.hid hA2
        have B1 := Lib.hid hB1
        have B2 := Lib.hid hB2
        have C1 := Lib.hid hC1
        have C2 := Lib.hid hC2
        have SV := Lib.hid (show Mx.Ok lx ∧ Rel lx lL ∧ lx.most = mo ∧ WfId lx from ⟨v3, v2, v4, w1⟩)
        have SU := Lib.hid (show Mx.Ok dx ∧ Rel dx dL ∧ dx.most = mo ∧ WfId dx from ⟨u3, u2, u4, w2⟩)
        have ST := Lib.hid (show Mx.Ok jx ∧ Rel jx jL ∧ jx.most = mo ∧ WfId jx from ⟨t3, t2, t4, w3⟩)
        clear hA1 hA2 hB1 hB2 hC1 hC2 hlx hlb hlL hjx hjb hjL hdx hdb hdL v1 v2 v3 v4 u1 u2 u3 u4 t1 t2 t3 t4 ok hR hmo hwf w1 w2 w3 HS hk2 yok
        go_wp2_with fail
        · go_region_held3 (fun w' => w'.cell? ⟨gk, 0, none⟩ = some (.int .i64 xs) ∧ w'.cell? ⟨gk, 1, none⟩ = some (.int .i64 xt) ∧ w'.cell? ⟨ga, 1, none⟩ = some (.int .i64 xs) ∧ w'.cell? ⟨ga, 2, none⟩ = some (.int .i64 xt) ∧ w'.cell? ⟨ga, 3, none⟩ = some (.int .i64 xi)) (first | exact ⟨e0 0, e0 1, f0 1, f0 2, f0 3⟩ | exact ⟨e1 0, e1 1, f1 1, f1 2, f1 3⟩ | exact ⟨e2 0, e2 1, f2 1, f2 2, f2 3⟩) (first | (go_at_call 15; refine (A1.out _ _ h7.drew.f3).mono ?_; rintro e w5 ⟨rfl, h8⟩; have e1 := h8.f2.cell; have f1 := h8.f3.cell) | (go_at_call 19; refine (A2.out _ _ h8.f4).mono ?_; rintro e w6 ⟨rfl, h9⟩; have e2 := h9.f3.cell; have f2 := h9.f4.cell))
          go_wp2
          go_roundw
          case rel => exact ⟨k + 1, _, _, by omega, by first | rfl | simp, by go_num, SV, h9.f3.drop.f3.drop.f2⟩
          case measure => simp [intOf]; omega
        · go_region_held3 (fun w' => w'.cell? ⟨gk, 0, none⟩ = some (.int .i64 xs) ∧ w'.cell? ⟨gk, 1, none⟩ = some (.int .i64 xt) ∧ w'.cell? ⟨ga, 1, none⟩ = some (.int .i64 xs) ∧ w'.cell? ⟨ga, 2, none⟩ = some (.int .i64 xt) ∧ w'.cell? ⟨ga, 3, none⟩ = some (.int .i64 xi)) (first | exact ⟨e0 0, e0 1, f0 1, f0 2, f0 3⟩ | exact ⟨e1 0, e1 1, f1 1, f1 2, f1 3⟩ | exact ⟨e2 0, e2 1, f2 1, f2 2, f2 3⟩) (first | (go_at_call 15; refine (A1.out _ _ h7.drew.f3).mono ?_; rintro e w5 ⟨rfl, h8⟩; have e1 := h8.f2.cell; have f1 := h8.f3.cell) | (go_at_call 19; refine (A2.out _ _ h8.f4).mono ?_; rintro e w6 ⟨rfl, h9⟩; have e2 := h9.f3.cell; have f2 := h9.f4.cell))
          go_wp2
          go_roundw
          case rel => exact ⟨k + 1, _, _, by omega, by first | rfl | simp, by go_num, SV, h9.f3.drop.f3.drop.f2⟩
          case measure => simp [intOf]; omega
        · go_region_held3 (fun w' => w'.cell? ⟨gk, 0, none⟩ = some (.int .i64 xs) ∧ w'.cell? ⟨gk, 1, none⟩ = some (.int .i64 xt) ∧ w'.cell? ⟨ga, 1, none⟩ = some (.int .i64 xs) ∧ w'.cell? ⟨ga, 2, none⟩ = some (.int .i64 xt) ∧ w'.cell? ⟨ga, 3, none⟩ = some (.int .i64 xi)) (first | exact ⟨e0 0, e0 1, f0 1, f0 2, f0 3⟩ | exact ⟨e1 0, e1 1, f1 1, f1 2, f1 3⟩ | exact ⟨e2 0, e2 1, f2 1, f2 2, f2 3⟩) (first | (go_at_call 16; refine (B1.out _ _ h7.drew.f3).mono ?_; rintro e w5 ⟨rfl, h8⟩; have e1 := h8.f2.cell; have f1 := h8.f3.cell) | (go_at_call 20; refine (B2.out _ _ h8.f4).mono ?_; rintro e w6 ⟨rfl, h9⟩; have e2 := h9.f3.cell; have f2 := h9.f4.cell))
          go_wp2
          go_roundw
          case rel => exact ⟨k + 1, _, _, by omega, by first | rfl | simp, by go_num, SU, h9.f3.drop.f3.drop.f2⟩
          case measure => simp [intOf]; omega
        · go_region_held3 (fun w' => w'.cell? ⟨gk, 0, none⟩ = some (.int .i64 xs) ∧ w'.cell? ⟨gk, 1, none⟩ = some (.int .i64 xt) ∧ w'.cell? ⟨ga, 1, none⟩ = some (.int .i64 xs) ∧ w'.cell? ⟨ga, 2, none⟩ = some (.int .i64 xt) ∧ w'.cell? ⟨ga, 3, none⟩ = some (.int .i64 xi)) (first | exact ⟨e0 0, e0 1, f0 1, f0 2, f0 3⟩ | exact ⟨e1 0, e1 1, f1 1, f1 2, f1 3⟩ | exact ⟨e2 0, e2 1, f2 1, f2 2, f2 3⟩) (first | (go_at_call 16; refine (B1.out _ _ h7.drew.f3).mono ?_; rintro e w5 ⟨rfl, h8⟩; have e1 := h8.f2.cell; have f1 := h8.f3.cell) | (go_at_call 20; refine (B2.out _ _ h8.f4).mono ?_; rintro e w6 ⟨rfl, h9⟩; have e2 := h9.f3.cell; have f2 := h9.f4.cell))
          go_wp2
          go_roundw
          case rel => exact ⟨k + 1, _, _, by omega, by first | rfl | simp, by go_num, SU, h9.f3.drop.f3.drop.f2⟩
          case measure => simp [intOf]; omega
        · go_region_held3 (fun w' => w'.cell? ⟨gk, 0, none⟩ = some (.int .i64 xs) ∧ w'.cell? ⟨gk, 1, none⟩ = some (.int .i64 xt) ∧ w'.cell? ⟨ga, 1, none⟩ = some (.int .i64 xs) ∧ w'.cell? ⟨ga, 2, none⟩ = some (.int .i64 xt) ∧ w'.cell? ⟨ga, 3, none⟩ = some (.int .i64 xi)) (first | exact ⟨e0 0, e0 1, f0 1, f0 2, f0 3⟩ | exact ⟨e1 0, e1 1, f1 1, f1 2, f1 3⟩ | exact ⟨e2 0, e2 1, f2 1, f2 2, f2 3⟩) (first | (go_at_call 14; refine (C1.out _ _ h7.drew.f3).mono ?_; rintro e w5 ⟨rfl, h8⟩; have e1 := h8.f2.cell; have f1 := h8.f3.cell) | (go_at_call 21; refine (C2.out _ _ h8.f4).mono ?_; rintro e w6 ⟨rfl, h9⟩; have e2 := h9.f3.cell; have f2 := h9.f4.cell))
          go_wp2
          go_roundw
          case rel => exact ⟨k + 1, _, _, by omega, by first | rfl | simp, by go_num, ST, h9.f3.drop.f3.drop.f2⟩
          case measure => simp [intOf]; omega
      · obtain ⟨ok, hR, hmo, hwf⟩ := HS.out
        clear HS
        go_wp2
        refine bodyPost_ret (v := .tuple #[ptrX m, ptrX r, .bool true]) (by simp [results, Try.results7, go_sem]) rfl ⟨_, _, x, L, rfl, ok, hR, hmo, hwf, h6⟩
end Go.Proofs.Ytkcclijckpbobaa
