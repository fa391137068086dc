/- EntityDeaf: the walk. -/
import Derived.Test.YtoophfokbioaaaaGreatDoorFxEq
import Derived.Test.YtoophfokbioaaaaGreatDoorViewC
namespace Go.Proofs.YtoophfokbioaaaaGreatDoor
open Go.RowKit

theorem deaf_frame {x : En} {f : Fr} (h : x.tei < 0 ∨ mayK f.kind f.cmd = false ∨ carries f.kind f.info.size = false) : x.frame f = (x, []) := by
  unfold En.frame
  rw [if_pos h]
set_option maxRecDepth 100000 in
set_option maxHeartbeats 3200000 in
theorem EntityDeaf.walk (a0 : Int) (a1 : Option Addr) (len1 cap1 : Nat) (a2 : Array Value) (w : World) (hN : NamesAt w) (_ : (Lit.int .i64 a0).wf = true) (w1 : (Sh.slice acSh).ok w [.slice a1 len1 cap1]) (w2 : Sh.ok w frSh a2.toList) :
    Calls Tryz.prog 7 #[.int .i64 a0, .slice a1 len1 cap1, .agg a2] w fun e w' => e = .returned (.bool true) ∧ Below w.heap.size w w' := by
  obtain ⟨f, hf, _⟩ := fr_of w2
  obtain rfl : a2 = f.cells.toArray := by rw [← hf]
  obtain ⟨a1', a2', cmd, k, pf, ns, nr, inf⟩ := f
  obtain ⟨l1, l2, f, l3⟩ := script_fn w1
  clear w1 w2 hf
  have hO : ∀ w' (A : HP), St w w' (A * Old w) → NamesAt w' := fun w' A h => hN.old (h.eq (show _ = Old w * A by ac_rfl)).old hN.pos
  have hO6 : ∀ w' (A B C D E F : HP), St w w' (A * (B * (C * (D * (E * (F * Old w)))))) → NamesAt w' := fun w' A B C D E F h => hO w' (A * (B * (C * (D * (E * F))))) (h.eq (by simp only [star_assoc]))
  obtain ⟨x, hx⟩ : ∃ x, En.acts f (min len1 60) (newEn a0 3) = x := ⟨_, rfl⟩
  have ok := acts_ok f (newEn a0 3) ⟨ok_new a0 3, rfl⟩ (min len1 60)
  rw [hx] at ok
  have h1 := (St.start w).alloc (.cells (Fr.cells ⟨a1', a2', cmd, k, pf, ns, nr, inf⟩).toArray TLf)
  have hca := l_after a0 3 a1 len1 cap1 f w _ (blk w.heap.size (.cells (Fr.cells ⟨a1', a2', cmd, k, pf, ns, nr, inf⟩).toArray TLf (0, 0))) l1 l2 l3 hN h1
  rw [hx] at hca
  clear hN hx l1 l2 l3
  have HO := Lib.hid hO6
  have hl : x.out.length ≤ 95000 := by rw [ok.2]; decide
  have OK := Lib.hid ok
  have hL := Lib.hid hl
  clear ok hl h1 hO hO6
  have h1 := (St.start w).alloc (.cells (Fr.cells ⟨a1', a2', cmd, k, pf, ns, nr, inf⟩).toArray TLf)
  go_enter Tryz.func7, Tryz.ntmps7
  go_upto_region 1 with fail
  generalize w.alloc _ = wa at *
  generalize w.heap.size = ga at *
  clear h1
  go_wp2_with fail
  refine hca.mono ?_
  rintro q v1 ⟨e, r, l, rfl, h2⟩
  clear hca
  have hfc : ∀ (c : Bool), (x.tei < 0 ∨ mayK k c = false ∨ carries k (inf.size : Int) = false) → ∀ (v : World) (R : HP), NamesAt v → St w v (EnAt e x * R) →
      Calls Tryz.prog 19 #[ptr e, .agg #[.int .i64 a1', .int .i64 a2', .bool c, .int .i64 k, .bool pf, .int .i64 ns, .int .i64 nr, .string inf]] v fun r w' => ∃ u, r = .returned u ∧ St w w' (LAt TFx 11 Fx.cells u [] * (EnAt e x * R)) := fun c hh v R hN h => by
    have := e_frame e x ⟨a1', a2', c, k, pf, ns, nr, inf⟩ OK.out.1.b.fl (fun ht => ⟨OK.out.1.tei.1 ht, OK.out.1.s8⟩) hL.out w v R hN h
    rw [deaf_frame (f := ⟨a1', a2', c, k, pf, ns, nr, inf⟩) hh] at this
    exact this
  have d := h2.f3.cell
  go_wp2_with fail
  refine (l_frames ⟨a1', a2', cmd, k, pf, ns, nr, inf⟩ w v1 _ h2).mono ?_
  rintro q v2 ⟨rfl, h3⟩
  clear h2 d
  have h4 := (h3.alloc (.cells (Fr.cells ⟨a1', a2', cmd, k, pf, ns, nr, inf⟩).toArray TFr)).alloc (.cells (Fr.cells ⟨a1', a2', cmd, k, pf, ns, nr, inf⟩).toArray 55)
  clear h3
  go_upto_region 3 with fail
  simp only [World.size_alloc] at *
  generalize (v2.alloc _).alloc _ = v3 at *
  generalize v2.heap.size = gb at *
  have hva := e_view e x OK.out.1.b.fl w v3 _ h4.f3
  have hvb := fun v R h => e_view e x OK.out.1.b.fl w v R h
  have hgv := env_guard
  unfold En.view at hva hvb
  clear h4
  generalize ((x.fl.q.l.length : Int) - (x.fl.q.sent : Int)) = xl at *
  generalize ((x.fl.q.sent : Nat) : Int) = xq at *
  generalize ((x.units.length : Nat) : Int) = xu at *
  generalize ((x.fl.vs : Nat) : Int) = xvs at *
  generalize ((x.fl.va : Nat) : Int) = xva at *
  generalize ((x.fl.vr : Nat) : Int) = xvr at *
  generalize x.state = xs at *
  generalize x.tei = xt at *
  generalize x.tries = xr at *
  generalize x.asked = xa at *
  generalize x.t2 = x2 at *
  generalize x.t3 = x3 at *
  generalize x.fl.peer = xp at *
  generalize x.fl.own = xo at *
  generalize x.fl.refused = xf at *
  have hsv := env_same xs xt xr xu xvs xva xvr xq xl xa x2 x3 xp xo xf
  go_wp2_with fail
  refine hva.mono ?_
  rintro q v4 ⟨rfl, h5⟩
  clear hva
  have h6 := h5.alloc (.cells #[.int .i64 xs, .int .i64 xt, .int .i64 xr, .bool xa, .bool x2, .bool x3, .int .i64 xu, .int .i64 xvs, .int .i64 xva, .int .i64 xvr, .bool xp, .bool xo, .bool xf, .int .i64 xq, .int .i64 xl] 43)
  clear h5
  go_upto_region 4 with fail
  generalize v4.alloc _ = v5 at *
  generalize v4.heap.size = gc at *
  have d6 := h6.cell
  have e6 := h6.f4.cell
  by_cases ht : xt < 0
  · have bt : decide (xt ≥ 0) = false := by simpa using ht
    go_upto_region 8 with fail
    have hq := fun v R hN h => hfc cmd (Or.inl ht) v R hN h
    clear hfc d6 e6
    have d6 := cells_vw h6.drew.cell
    have e6 := cells_fr h6.drew.f4.cell
    have hwk := en_wakes w _ _ (fun w' h => HO.out w' _ _ _ _ _ _ h) h6.drew
    go_region_held3 (fun w' => (w'.cell? ⟨gb, 0, none⟩ = some (.int .i64 a1') ∧ w'.cell? ⟨gb, 1, none⟩ = some (.int .i64 a2') ∧ w'.cell? ⟨gb, 2, none⟩ = some (.bool cmd) ∧ w'.cell? ⟨gb, 3, none⟩ = some (.int .i64 k) ∧ w'.cell? ⟨gb, 4, none⟩ = some (.bool pf) ∧ w'.cell? ⟨gb, 5, none⟩ = some (.int .i64 ns) ∧ w'.cell? ⟨gb, 6, none⟩ = some (.int .i64 nr) ∧ w'.cell? ⟨gb, 7, none⟩ = some (.string inf)) ∧ w'.cell? ⟨gc, 0, none⟩ = some (.int .i64 xs) ∧ w'.cell? ⟨gc, 1, none⟩ = some (.int .i64 xt) ∧ w'.cell? ⟨gc, 2, none⟩ = some (.int .i64 xr) ∧ w'.cell? ⟨gc, 3, none⟩ = some (.bool xa) ∧ w'.cell? ⟨gc, 4, none⟩ = some (.bool x2) ∧ w'.cell? ⟨gc, 5, none⟩ = some (.bool x3) ∧ w'.cell? ⟨gc, 6, none⟩ = some (.int .i64 xu) ∧ w'.cell? ⟨gc, 7, none⟩ = some (.int .i64 xvs) ∧ w'.cell? ⟨gc, 8, none⟩ = some (.int .i64 xva) ∧ w'.cell? ⟨gc, 9, none⟩ = some (.int .i64 xvr) ∧ w'.cell? ⟨gc, 10, none⟩ = some (.bool xp) ∧ w'.cell? ⟨gc, 11, none⟩ = some (.bool xo) ∧ w'.cell? ⟨gc, 12, none⟩ = some (.bool xf) ∧ w'.cell? ⟨gc, 13, none⟩ = some (.int .i64 xq) ∧ w'.cell? ⟨gc, 14, none⟩ = some (.int .i64 xl))
      (first | with_reducible exact ⟨e6, d6⟩ | with_reducible exact ⟨e7, d7⟩ | with_reducible exact ⟨e8, d8⟩ | with_reducible exact ⟨e9, d9⟩) (first
      | (go_at_call 12; refine hwk.mono ?_; rintro q w7 ⟨rfl, h7⟩; clear d6 e6 hwk h6; have d7 := cells_vw h7.cell; have e7 := cells_fr h7.f4.cell)
      | (go_at_call 19; refine (hq _ _ (HO.out _ _ _ _ _ _ _ h7) h7.f2).mono ?_; rintro q w8 ⟨vl, rfl, h8⟩; clear d7 e7 h7 hq; obtain ⟨la, ca, rfl, _, _⟩ := h8.l_shape; have d8 := cells_vw h8.f3.cell; have e8 := cells_fr h8.f5.cell)
      | (go_at_call 16; refine (hvb _ _ h8.f2).mono ?_; rintro q w9 ⟨rfl, h9⟩; clear d8 e8 h8 hvb; have d9 := cells_vw h9.f3.cell; have e9 := cells_fr h9.f5.cell))
    go_wp2
    go_ret
    exact ⟨rfl, h9.drop.drop.drop.drop.drop.drop.drop.old0⟩
  · have bt : decide (xt ≥ 0) = true := by simpa using ht
    have hm := k_may k cmd
    cases hmm : mayK k cmd with
    | false =>
      rw [hmm] at hm
      go_upto_region 8 with (go_at_call 22; refine (hm _).mono ?_; rintro q w1 ⟨rfl, rfl⟩)
      have hq := fun v R hN h => hfc cmd (Or.inr (Or.inl hmm)) v R hN h
      clear hfc d6 e6
      have d6 := cells_vw h6.drew.cell
      have e6 := cells_fr h6.drew.f4.cell
      have hwk := en_wakes w _ _ (fun w' h => HO.out w' _ _ _ _ _ _ h) h6.drew
      go_region_held3 (fun w' => (w'.cell? ⟨gb, 0, none⟩ = some (.int .i64 a1') ∧ w'.cell? ⟨gb, 1, none⟩ = some (.int .i64 a2') ∧ w'.cell? ⟨gb, 2, none⟩ = some (.bool cmd) ∧ w'.cell? ⟨gb, 3, none⟩ = some (.int .i64 k) ∧ w'.cell? ⟨gb, 4, none⟩ = some (.bool pf) ∧ w'.cell? ⟨gb, 5, none⟩ = some (.int .i64 ns) ∧ w'.cell? ⟨gb, 6, none⟩ = some (.int .i64 nr) ∧ w'.cell? ⟨gb, 7, none⟩ = some (.string inf)) ∧ w'.cell? ⟨gc, 0, none⟩ = some (.int .i64 xs) ∧ w'.cell? ⟨gc, 1, none⟩ = some (.int .i64 xt) ∧ w'.cell? ⟨gc, 2, none⟩ = some (.int .i64 xr) ∧ w'.cell? ⟨gc, 3, none⟩ = some (.bool xa) ∧ w'.cell? ⟨gc, 4, none⟩ = some (.bool x2) ∧ w'.cell? ⟨gc, 5, none⟩ = some (.bool x3) ∧ w'.cell? ⟨gc, 6, none⟩ = some (.int .i64 xu) ∧ w'.cell? ⟨gc, 7, none⟩ = some (.int .i64 xvs) ∧ w'.cell? ⟨gc, 8, none⟩ = some (.int .i64 xva) ∧ w'.cell? ⟨gc, 9, none⟩ = some (.int .i64 xvr) ∧ w'.cell? ⟨gc, 10, none⟩ = some (.bool xp) ∧ w'.cell? ⟨gc, 11, none⟩ = some (.bool xo) ∧ w'.cell? ⟨gc, 12, none⟩ = some (.bool xf) ∧ w'.cell? ⟨gc, 13, none⟩ = some (.int .i64 xq) ∧ w'.cell? ⟨gc, 14, none⟩ = some (.int .i64 xl))
        (first | with_reducible exact ⟨e6, d6⟩ | with_reducible exact ⟨e7, d7⟩ | with_reducible exact ⟨e8, d8⟩ | with_reducible exact ⟨e9, d9⟩) (first
        | (go_at_call 12; refine hwk.mono ?_; rintro q w7 ⟨rfl, h7⟩; clear d6 e6 hwk h6; have d7 := cells_vw h7.cell; have e7 := cells_fr h7.f4.cell)
        | (go_at_call 19; refine (hq _ _ (HO.out _ _ _ _ _ _ _ h7) h7.f2).mono ?_; rintro q w8 ⟨vl, rfl, h8⟩; clear d7 e7 h7 hq; obtain ⟨la, ca, rfl, _, _⟩ := h8.l_shape; have d8 := cells_vw h8.f3.cell; have e8 := cells_fr h8.f5.cell)
        | (go_at_call 16; refine (hvb _ _ h8.f2).mono ?_; rintro q w9 ⟨rfl, h9⟩; clear d8 e8 h8 hvb; have d9 := cells_vw h9.f3.cell; have e9 := cells_fr h9.f5.cell))
      go_wp2
      go_ret
      exact ⟨rfl, h9.drop.drop.drop.drop.drop.drop.drop.old0⟩
    | true =>
      rw [hmm] at hm
      have hk := k_carries k (inf.size : Int) v5 (HO.out _ _ _ _ _ _ _ h6)
      cases hcc : carries k (inf.size : Int) with
      | false =>
        rw [hcc] at hk
        go_upto_region 8 with (first | (go_at_call 22; refine (hm _).mono ?_; rintro q w1 ⟨rfl, rfl⟩) | (go_at_call 23; refine hk.mono ?_; rintro q w1 ⟨rfl, rfl⟩))
        have hq := fun v R hN h => hfc cmd (Or.inr (Or.inr hcc)) v R hN h
        clear hfc d6 e6
        have d6 := cells_vw h6.drew.cell
        have e6 := cells_fr h6.drew.f4.cell
        have hwk := en_wakes w _ _ (fun w' h => HO.out w' _ _ _ _ _ _ h) h6.drew
        go_region_held3 (fun w' => (w'.cell? ⟨gb, 0, none⟩ = some (.int .i64 a1') ∧ w'.cell? ⟨gb, 1, none⟩ = some (.int .i64 a2') ∧ w'.cell? ⟨gb, 2, none⟩ = some (.bool cmd) ∧ w'.cell? ⟨gb, 3, none⟩ = some (.int .i64 k) ∧ w'.cell? ⟨gb, 4, none⟩ = some (.bool pf) ∧ w'.cell? ⟨gb, 5, none⟩ = some (.int .i64 ns) ∧ w'.cell? ⟨gb, 6, none⟩ = some (.int .i64 nr) ∧ w'.cell? ⟨gb, 7, none⟩ = some (.string inf)) ∧ w'.cell? ⟨gc, 0, none⟩ = some (.int .i64 xs) ∧ w'.cell? ⟨gc, 1, none⟩ = some (.int .i64 xt) ∧ w'.cell? ⟨gc, 2, none⟩ = some (.int .i64 xr) ∧ w'.cell? ⟨gc, 3, none⟩ = some (.bool xa) ∧ w'.cell? ⟨gc, 4, none⟩ = some (.bool x2) ∧ w'.cell? ⟨gc, 5, none⟩ = some (.bool x3) ∧ w'.cell? ⟨gc, 6, none⟩ = some (.int .i64 xu) ∧ w'.cell? ⟨gc, 7, none⟩ = some (.int .i64 xvs) ∧ w'.cell? ⟨gc, 8, none⟩ = some (.int .i64 xva) ∧ w'.cell? ⟨gc, 9, none⟩ = some (.int .i64 xvr) ∧ w'.cell? ⟨gc, 10, none⟩ = some (.bool xp) ∧ w'.cell? ⟨gc, 11, none⟩ = some (.bool xo) ∧ w'.cell? ⟨gc, 12, none⟩ = some (.bool xf) ∧ w'.cell? ⟨gc, 13, none⟩ = some (.int .i64 xq) ∧ w'.cell? ⟨gc, 14, none⟩ = some (.int .i64 xl))
          (first | with_reducible exact ⟨e6, d6⟩ | with_reducible exact ⟨e7, d7⟩ | with_reducible exact ⟨e8, d8⟩ | with_reducible exact ⟨e9, d9⟩) (first
          | (go_at_call 12; refine hwk.mono ?_; rintro q w7 ⟨rfl, h7⟩; clear d6 e6 hwk h6; have d7 := cells_vw h7.cell; have e7 := cells_fr h7.f4.cell)
          | (go_at_call 19; refine (hq _ _ (HO.out _ _ _ _ _ _ _ h7) h7.f2).mono ?_; rintro q w8 ⟨vl, rfl, h8⟩; clear d7 e7 h7 hq; obtain ⟨la, ca, rfl, _, _⟩ := h8.l_shape; have d8 := cells_vw h8.f3.cell; have e8 := cells_fr h8.f5.cell)
          | (go_at_call 16; refine (hvb _ _ h8.f2).mono ?_; rintro q w9 ⟨rfl, h9⟩; clear d8 e8 h8 hvb; have d9 := cells_vw h9.f3.cell; have e9 := cells_fr h9.f5.cell))
        go_wp2
        go_ret
        exact ⟨rfl, h9.drop.drop.drop.drop.drop.drop.drop.old0⟩
      | true =>
        rw [hcc] at hk
        have f6 := h6.f4.free
        have h7 := (h6.f4.set 2 (.bool (!cmd))).b4
        go_upto_region 6 with (first | (go_at_call 22; refine (hm _).mono ?_; rintro q w1 ⟨rfl, rfl⟩) | (go_at_call 23; refine hk.mono ?_; rintro q w1 ⟨rfl, rfl⟩))
        generalize v5.setCell _ _ = v6 at *
        clear d6 e6 f6 hk hm
        have d6 := h7.cell
        have e6 := h7.f4.cell
        have hm := k_may k (!cmd)
        cases hm2 : mayK k (!cmd) with
        | true =>
          rw [hm2] at hm
          have hwk := en_wakes w _ _ (fun w' h => HO.out w' _ _ _ _ _ _ h) h7
          go_wp2_with (go_at_call 22; refine (hm _).mono ?_; rintro q w1 ⟨rfl, rfl⟩)
          refine hwk.mono ?_
          rintro q w7 ⟨rfl, h8⟩
          go_wp2
          go_ret
          exact ⟨rfl, h8.drop.drop.drop.drop.drop.drop.old0⟩
        | false =>
          rw [hm2] at hm
          clear h6
          have h6 := h7
          clear h7
          go_upto_region 8 with (go_at_call 22; refine (hm _).mono ?_; rintro q w1 ⟨rfl, rfl⟩)
          have hq := fun v R hN h => hfc (!cmd) (Or.inr (Or.inl hm2)) v R hN h
          clear hfc d6 e6
          have d6 := cells_vw h6.drew.cell
          have e6 := cells_fr h6.drew.f4.cell
          have hwk := en_wakes w _ _ (fun w' h => HO.out w' _ _ _ _ _ _ h) h6.drew
          go_region_held3 (fun w' => (w'.cell? ⟨gb, 0, none⟩ = some (.int .i64 a1') ∧ w'.cell? ⟨gb, 1, none⟩ = some (.int .i64 a2') ∧ w'.cell? ⟨gb, 2, none⟩ = some (.bool (!cmd)) ∧ w'.cell? ⟨gb, 3, none⟩ = some (.int .i64 k) ∧ w'.cell? ⟨gb, 4, none⟩ = some (.bool pf) ∧ w'.cell? ⟨gb, 5, none⟩ = some (.int .i64 ns) ∧ w'.cell? ⟨gb, 6, none⟩ = some (.int .i64 nr) ∧ w'.cell? ⟨gb, 7, none⟩ = some (.string inf)) ∧ w'.cell? ⟨gc, 0, none⟩ = some (.int .i64 xs) ∧ w'.cell? ⟨gc, 1, none⟩ = some (.int .i64 xt) ∧ w'.cell? ⟨gc, 2, none⟩ = some (.int .i64 xr) ∧ w'.cell? ⟨gc, 3, none⟩ = some (.bool xa) ∧ w'.cell? ⟨gc, 4, none⟩ = some (.bool x2) ∧ w'.cell? ⟨gc, 5, none⟩ = some (.bool x3) ∧ w'.cell? ⟨gc, 6, none⟩ = some (.int .i64 xu) ∧ w'.cell? ⟨gc, 7, none⟩ = some (.int .i64 xvs) ∧ w'.cell? ⟨gc, 8, none⟩ = some (.int .i64 xva) ∧ w'.cell? ⟨gc, 9, none⟩ = some (.int .i64 xvr) ∧ w'.cell? ⟨gc, 10, none⟩ = some (.bool xp) ∧ w'.cell? ⟨gc, 11, none⟩ = some (.bool xo) ∧ w'.cell? ⟨gc, 12, none⟩ = some (.bool xf) ∧ w'.cell? ⟨gc, 13, none⟩ = some (.int .i64 xq) ∧ w'.cell? ⟨gc, 14, none⟩ = some (.int .i64 xl))
            (first | with_reducible exact ⟨e6, d6⟩ | with_reducible exact ⟨e7, d7⟩ | with_reducible exact ⟨e8, d8⟩ | with_reducible exact ⟨e9, d9⟩) (first
            | (go_at_call 12; refine hwk.mono ?_; rintro q w7 ⟨rfl, h7⟩; clear d6 e6 hwk h6; have d7 := cells_vw h7.cell; have e7 := cells_fr h7.f4.cell)
            | (go_at_call 19; refine (hq _ _ (HO.out _ _ _ _ _ _ _ h7) h7.f2).mono ?_; rintro q w8 ⟨vl, rfl, h8⟩; clear d7 e7 h7 hq; obtain ⟨la, ca, rfl, _, _⟩ := h8.l_shape; have d8 := cells_vw h8.f3.cell; have e8 := cells_fr h8.f5.cell)
            | (go_at_call 16; refine (hvb _ _ h8.f2).mono ?_; rintro q w9 ⟨rfl, h9⟩; clear d8 e8 h8 hvb; have d9 := cells_vw h9.f3.cell; have e9 := cells_fr h9.f5.cell))
          go_wp2
          go_ret
          exact ⟨rfl, h9.drop.drop.drop.drop.drop.drop.drop.old0⟩
end Go.Proofs.YtoophfokbioaaaaGreatDoor
