/- The octets of a frame: ctrl.Put, addr.Put, frame.Put. -/
import Derived.Test.YtoophfokbioaaaaGreatDoorFcsC
import Derived.Test.YtoophfokbioaaaaGreatDoorEntT
namespace Go.Proofs.YtoophfokbioaaaaGreatDoor
open Go.RowKit

/-- the kinds' first octets -/
def firstK : List Int := [0, 1, 5, 9, 111, 15, 3, 67, 99, 135]
def FirstAt (w : World) : Prop := ∀ i : Nat, i < 10 → w.cell? ⟨1, i, none⟩ = some (.int .u8 (firstK.getD i 0))
theorem FirstAt.old {w w' : World} {n : Nat} (h : FirstAt w) (hb : Below n w w') (hn : 1 < n) : FirstAt w' := fun i hi => (hb.cell (p := ⟨1, i, none⟩) hn).trans (h i hi)
theorem FirstAt.pos {w : World} (h : FirstAt w) : 1 < w.heap.size := World.block_lt_of_cell? _ _ (h 0 (by decide))
/-- a control field -/
def bitI (b : Bool) : Int := if b = true then 1 else 0
def ctlO (k : Int) (pf : Bool) (ns nr : Int) : List Int :=
  if numb k = true then [if k = 0 then 2 * ns else firstK.getD k.toNat 0, 2 * nr + bitI pf]
  else [bits .or .u8 (firstK.getD k.toNat 0) (16 * bitI pf)]
theorem packs_b7 (b : Bool) (n : Int) (h0 : 0 ≤ n) (h1 : n < 128) : packs [(1, bitI b), (7, n)] 0 0 = (2 * n + bitI b, 0) := by
  obtain ⟨m, rfl⟩ : ∃ m : Nat, n = m := ⟨n.toNat, by omega⟩
  have : ∀ (b : Bool) (n : Fin 128), packs [(1, bitI b), (7, (n : Nat))] 0 0 = (2 * ((n : Nat) : Int) + bitI b, 0) := by decide +kernel
  exact this b ⟨m, by omega⟩
theorem ctl_or : ∀ (i : Fin 10) (b : Bool), 0 ≤ bits .or .u8 (firstK.getD i 0) (16 * bitI b) ∧ bits .or .u8 (firstK.getD i 0) (16 * bitI b) < 256 ∧ 0 ≤ firstK.getD i 0 ∧ firstK.getD i 0 < 256 := by decide +kernel
theorem c_one (b : Bool) (w : World) : Calls Tryz.prog 100 #[.bool b] w fun r w' => r = .returned (.int .i64 (bitI b)) ∧ w = w' := by
  cases b
  all_goals (
    go_enter Tryz.func100, Tryz.ntmps100
    go_wp2
    go_ret
    exact ⟨rfl, rfl⟩)
theorem a_one (b : Bool) (w : World) : Calls Tryz.prog 102 #[.bool b] w fun r w' => r = .returned (.int .i64 (bitI b)) ∧ w = w' := by
  cases b
  all_goals (
    go_enter Tryz.func102, Tryz.ntmps102
    go_wp2
    go_ret
    exact ⟨rfl, rfl⟩)
theorem b_pack2 {a b c d x y : Int} (hv : packs [(a, b), (c, d)] 0 0 = (x, y)) {w0 wd : World} {R : HP} (h : St w0 wd R) :
    Calls Tryz.prog 101 #[.slice (some ⟨wd.heap.size, 0, none⟩) 2 2] (wd.alloc (.cells #[.int .i64 a, .int .i64 b, .int .i64 c, .int .i64 d] 150)) fun e w' => e = .returned (.tuple #[.int .u8 x, .int .i64 y]) ∧ St w0 w' R := by
  have h3 := h.alloc (.cells #[.int .i64 a, .int .i64 b, .int .i64 c, .int .i64 d] 150)
  have h4 := St.row_mk (xs := pairC [(a, b), (c, d)]) (n := 2) (cap := 2) (sz := 2) (off := 0) h3 rfl (by decide) (by decide) (by simp) (fun j hj => by match j, hj with | 0, _ => rfl | 1, _ => rfl | 2, _ => rfl | 3, _ => rfl)
  have hp := b_pack [(a, b), (c, d)] _ w0 _ _ h4 (by simp)
  rw [hv] at hp
  exact hp.mono fun e w' ⟨he, hs⟩ => ⟨he, hs.drop⟩
theorem b_pack3 {a b c d f g x y : Int} (hv : packs [(a, b), (c, d), (f, g)] 0 0 = (x, y)) {w0 wd : World} {R : HP} (h : St w0 wd R) :
    Calls Tryz.prog 101 #[.slice (some ⟨wd.heap.size, 0, none⟩) 3 3] (wd.alloc (.cells #[.int .i64 a, .int .i64 b, .int .i64 c, .int .i64 d, .int .i64 f, .int .i64 g] 150)) fun e w' => e = .returned (.tuple #[.int .u8 x, .int .i64 y]) ∧ St w0 w' R := by
  have h3 := h.alloc (.cells #[.int .i64 a, .int .i64 b, .int .i64 c, .int .i64 d, .int .i64 f, .int .i64 g] 150)
  have h4 := St.row_mk (xs := pairC [(a, b), (c, d), (f, g)]) (n := 3) (cap := 3) (sz := 2) (off := 0) h3 rfl (by decide) (by decide) (by simp) (fun j hj => by match j, hj with | 0, _ => rfl | 1, _ => rfl | 2, _ => rfl | 3, _ => rfl | 4, _ => rfl | 5, _ => rfl)
  have hp := b_pack [(a, b), (c, d), (f, g)] _ w0 _ _ h4 (by simp)
  rw [hv] at hp
  exact hp.mono fun e w' ⟨he, hs⟩ => ⟨he, hs.drop⟩
set_option maxRecDepth 100000 in
theorem c_put (k : Int) (pf : Bool) (ns nr : Int) (k0 : 0 ≤ k) (k1 : k < 10) (n0 : 0 ≤ ns) (n1 : ns < 128) (r0 : 0 ≤ nr) (r1 : nr < 128) (w0 w : World) (R : HP) (hF : FirstAt w) (h : St w0 w R) :
    Calls Tryz.prog 54 #[.agg #[.int .i64 k, .bool pf, .int .i64 ns, .int .i64 nr]] w fun e w' => e = .returned (.tuple #[.string (octets (ctlO k pf ns nr)), .int .i64 0]) ∧ St w0 w' R := by
  have hg := k_good k
  have h1 := h.alloc (.cells #[.int .i64 k, .bool pf, .int .i64 ns, .int .i64 nr] 111)
  have hF1 := hF.old ((Below.refl w.heap.size w).alloc (Nat.le_refl _) (.cells #[.int .i64 k, .bool pf, .int .i64 ns, .int .i64 nr] 111)) hF.pos
  obtain ⟨i, rfl⟩ : ∃ i : Nat, k = i := ⟨k.toNat, by omega⟩
  have hi : i < 10 := by omega
  have hc := hF1 i hi
  have ho := ctl_or ⟨i, hi⟩ pf
  have hn : ∀ w, Calls Tryz.prog 51 #[.int .i64 (i : Int)] w fun r w' => r = .returned (.bool (numb i)) ∧ w = w' := fun w => (k_numb (i : Int) w).mono fun _ _ h => ⟨h.1, h.2.symm⟩
  have ho2 := c_one pf
  have hgt : (decide ((0 : Int) ≤ (i : Int)) && decide ((i : Int) < 10)) = true := by simp; omega
  simp only [hgt] at hg
  unfold ctlO
  simp only [Int.toNat_natCast] at ho ⊢
  generalize firstK.getD i 0 = F at *
  clear h hF hF1 hgt
  by_cases h4 : numb i = true
  · rw [if_pos h4]
    rw [h4] at hn
    have hp := packs_b7 pf nr r0 r1
    have hp0 := packs_b7 false ns n0 n1
    have e0 : ∀ n : Int, 2 * n + bitI false = 2 * n := fun n => Int.add_zero _
    rw [e0] at hp0
    clear e0
    have hb2 : 0 ≤ bitI pf ∧ bitI pf ≤ 1 := by cases pf <;> decide
    generalize bitI pf = b at *
    obtain ⟨y, hy⟩ : ∃ y, 2 * nr + b = y := ⟨_, rfl⟩
    have q0 : 0 ≤ y ∧ y < 256 := by omega
    rw [hy] at hp ⊢
    obtain ⟨X, hX⟩ : ∃ X, (if (i : Int) = 0 then 2 * ns else F) = X := ⟨_, rfl⟩
    rw [hX]
    have HX := Lib.hid hX
    have Q0 := Lib.hid q0
    clear hX hy hb2 q0
    go_enter Tryz.func54, Tryz.ntmps54
    go_upto_region 1 with fail
    generalize w.alloc _ = wa at *
    generalize w.heap.size = ga at *
    have c := h1.cell
    go_upto_region 6 with (first | (go_at_call 99; refine (hg _).mono ?_; rintro e w1 ⟨rfl, rfl⟩) | (go_at_call 51; refine (hn _).mono ?_; rintro e w1 ⟨rfl, rfl⟩) | (go_at_call 100; refine (ho2 _).mono ?_; rintro e w1 ⟨rfl, rfl⟩))
    have cd := h1.drew.cell
    have ce := (h1.drew.alloc (.cells #[.int .i64 1, .int .i64 b, .int .i64 7, .int .i64 nr] 150)).f2.cell
    go_region_held3 (fun w' => w'.cell? ⟨ga, 1, none⟩ = some (.bool pf) ∧ w'.cell? ⟨ga, 3, none⟩ = some (.int .i64 nr)) (first | exact ⟨c 1, c 3⟩ | exact ⟨cd 1, cd 3⟩ | exact ⟨ce 1, ce 3⟩ | exact ⟨c5 1, c5 3⟩) (first
      | (go_at_call 100; refine (ho2 _).mono ?_; rintro e w1 ⟨rfl, rfl⟩)
      | (go_at_call 101; refine (b_pack2 hp h1.drew).mono ?_; rintro e w5 ⟨rfl, h5⟩; have c5 := h5.cell))
    clear c cd ce hp ho2 hg hn hc
    have c := h5.cell
    have q0 := Q0.out
    have hX := HX.out
    clear Q0 HX
    by_cases k4 : i = 0
    · subst k4
      rw [if_pos (show ((0 : Nat) : Int) = 0 from rfl)] at hX
      subst hX
      go_wp2_with fail
      refine (b_pack2 hp0 h5).mono ?_
      rintro e w6 ⟨rfl, h6⟩
      have hq := run_octets (P := Tryz.prog) (src := 147) (dst := 9) (e := 5) Tryz.underlying147 Tryz.underlying5 Tryz.underlying9 (w6.alloc (.cells #[.int .u8 (2 * ns), .int .u8 y] 5)) ⟨w6.heap.size, 0, none⟩ 2 [2 * ns, y] 2 rfl
        (by intro n hn; simp at hn; omega) (by intro j hj; rw [add_none]; match j, hj with | 0, _ => simp | 1, _ => simp)
      clear q0
      go_wp2
      go_ret2
      exact ⟨rfl, (h6.alloc _).drop.drop⟩
    · rw [if_neg (show ¬ ((i : Nat) : Int) = 0 by omega)] at hX
      subst hX
      have k5 : ((i : Int) == 0) = false := by simp; omega
      have hq := run_octets (P := Tryz.prog) (src := 147) (dst := 9) (e := 5) Tryz.underlying147 Tryz.underlying5 Tryz.underlying9 (w5.alloc (.cells #[.int .u8 F, .int .u8 y] 5)) ⟨w5.heap.size, 0, none⟩ 2 [F, y] 2 rfl
        (by intro n hn; simp at hn; omega) (by intro j hj; rw [add_none]; match j, hj with | 0, _ => simp | 1, _ => simp)
      clear q0
      go_wp2
      go_ret2
      exact ⟨rfl, (h5.alloc _).drop.drop⟩
  · rw [if_neg h4]
    rw [show numb i = false by simpa using h4] at hn
    have hb : 16 * bitI pf = bitI pf * 16 := Int.mul_comm _ _
    have hw : IntKind.u8.wrap (bitI pf * 16) = bitI pf * 16 := by cases pf <;> decide
    have hw2 : IntKind.i64.wrap (bitI pf * 16) = bitI pf * 16 := by cases pf <;> decide
    rw [hb] at ho ⊢
    obtain ⟨o1, o2, _, _⟩ := ho
    generalize bitI pf = b at *
    obtain ⟨o, hor⟩ : ∃ o, bits .or .u8 F (b * 16) = o := ⟨_, rfl⟩
    rw [hor] at o1 o2 ⊢
    clear hb h4
    go_enter Tryz.func54, Tryz.ntmps54
    go_upto_region 1 with fail
    generalize w.alloc _ = wa at *
    generalize w.heap.size = ga at *
    have c := h1.cell
    have hq := run_octets (P := Tryz.prog) (src := 147) (dst := 9) (e := 5) Tryz.underlying147 Tryz.underlying5 Tryz.underlying9 (wa.alloc (.cells #[.int .u8 o] 5)) ⟨wa.heap.size, 0, none⟩ 1 [o] 1 rfl
      (by intro n hn; simp at hn; omega) (by intro j hj; rw [add_none]; match j, hj with | 0, _ => simp)
    go_wp2_with (first | (go_at_call 99; refine (hg _).mono ?_; rintro e w1 ⟨rfl, rfl⟩) | (go_at_call 51; refine (hn _).mono ?_; rintro e w1 ⟨rfl, rfl⟩) | (go_at_call 100; refine (ho2 _).mono ?_; rintro e w1 ⟨rfl, rfl⟩))
    go_ret2
    exact ⟨rfl, (h1.alloc _).drop.drop⟩
theorem packs_adr (b : Bool) (n : Int) (h0 : 0 ≤ n) (h1 : n < 64) : packs [(1, 0), (1, bitI b), (6, n)] 0 0 = (2 * bitI b + 4 * n, 0) := by
  obtain ⟨m, rfl⟩ : ∃ m : Nat, n = m := ⟨n.toNat, by omega⟩
  have : ∀ (b : Bool) (n : Fin 64), packs [(1, 0), (1, bitI b), (6, (n : Nat))] 0 0 = (2 * bitI b + 4 * ((n : Nat) : Int), 0) := by decide +kernel
  exact this b ⟨m, by omega⟩
/-- an address field -/
def adrO (s t : Int) (cr : Bool) : List Int := [2 * bitI cr + 4 * s, 2 * t + 1]
set_option maxRecDepth 100000 in
theorem a_put (s t : Int) (cr : Bool) (s0 : 0 ≤ s) (s1 : s < 64) (t0 : 0 ≤ t) (t1 : t < 128) (w0 w : World) (R : HP) (h : St w0 w R) :
    Calls Tryz.prog 55 #[.agg #[.int .i64 s, .int .i64 t, .bool cr]] w fun e w' => e = .returned (.tuple #[.string (octets (adrO s t cr)), .int .i64 0]) ∧ St w0 w' R := by
  have h1 := h.alloc (.cells #[.int .i64 s, .int .i64 t, .bool cr] 114)
  have ho := a_one cr
  have hp := packs_adr cr s s0 s1
  have hp2 := packs_17 t
  rw [if_pos (by omega)] at hp2
  have hb : 0 ≤ bitI cr ∧ bitI cr ≤ 1 := by cases cr <;> decide
  unfold adrO
  generalize bitI cr = b at *
  obtain ⟨x, hx⟩ : ∃ x, 2 * b + 4 * s = x := ⟨_, rfl⟩
  obtain ⟨y, hy⟩ : ∃ y, 2 * t + 1 = y := ⟨_, rfl⟩
  have q : 0 ≤ x ∧ x < 256 ∧ 0 ≤ y ∧ y < 256 := by omega
  rw [hx] at hp ⊢
  rw [hy] at hp2 ⊢
  have Q := Lib.hid q
  clear hx hy hb q h
  go_enter Tryz.func55, Tryz.ntmps55
  go_upto_region 1 with fail
  generalize w.alloc _ = wa at *
  generalize w.heap.size = ga at *
  have c := h1.cell
  have cd := h1.drew.cell
  have ce := (h1.drew.alloc (.cells #[.int .i64 1, .int .i64 0, .int .i64 1, .int .i64 b, .int .i64 6, .int .i64 s] 150)).f2.cell
  go_region_held3 (fun w' => w'.cell? ⟨ga, 2, none⟩ = some (.bool cr) ∧ w'.cell? ⟨ga, 0, none⟩ = some (.int .i64 s)) (first | exact ⟨c 2, c 0⟩ | exact ⟨cd 2, cd 0⟩ | exact ⟨ce 2, ce 0⟩ | exact ⟨c5 2, c5 0⟩) (first
    | (go_at_call 102; refine (ho _).mono ?_; rintro e w1 ⟨rfl, rfl⟩)
    | (go_at_call 101; refine (b_pack3 hp h1.drew).mono ?_; rintro e w5 ⟨rfl, h5⟩; have c5 := h5.cell))
  clear c cd ce hp ho h1
  have c := h5.cell
  go_wp2_with fail
  refine (b_pack2 hp2 h5).mono ?_
  rintro e w6 ⟨rfl, h6⟩
  have hq := run_octets (P := Tryz.prog) (src := 147) (dst := 9) (e := 5) Tryz.underlying147 Tryz.underlying5 Tryz.underlying9 (w6.alloc (.cells #[.int .u8 x, .int .u8 y] 5)) ⟨w6.heap.size, 0, none⟩ 2 [x, y] 2 rfl
    (by have := Q.out; intro n hn; simp at hn; omega) (by intro j hj; rw [add_none]; match j, hj with | 0, _ => simp | 1, _ => simp)
  go_wp2
  go_ret2
  exact ⟨rfl, (h6.alloc _).drop.drop⟩
theorem a_make (s t : Int) (c n : Bool) (w0 w : World) (R : HP) (h : St w0 w R) :
    Calls Tryz.prog 56 #[.agg #[.int .i64 s, .int .i64 t], .bool c, .bool n] w fun e w' => e = .returned (.agg #[.int .i64 s, .int .i64 t, .bool (c == n)]) ∧ St w0 w' R := by
  have h2 := (h.alloc (.cells #[.int .i64 s, .int .i64 t] 51)).alloc (.cells #[.int .i64 s, .int .i64 t, .bool (c == n)] 114)
  have c2 := h2.cell
  simp only [World.size_alloc] at *
  go_enter Tryz.func56, Tryz.ntmps56
  go_wp2
  refine bodyPost_ret (v := .agg #[.int .i64 s, .int .i64 t, .bool (c == n)]) (by simp [results, Tryz.results56, go_sem, c2]) rfl ⟨rfl, h2.drop.drop⟩
/-- a frame's octets -/
def putO (f : Fr) (net : Bool) : ByteArray := sealed (octets (adrO f.sapi f.tei (f.cmd == net)) ++ octets (ctlO f.kind f.pf f.ns f.nr) ++ f.info)
/-- a frame that has octets -/
structure PutOk (f : Fr) : Prop where
  s0 : 0 ≤ f.sapi
  s1 : f.sapi < 64
  t0 : 0 ≤ f.tei
  t1 : f.tei < 128
  may : mayK f.kind f.cmd = true
  car : carries f.kind f.info.size = true
  n0 : 0 ≤ f.ns
  n1 : f.ns < 128
  r0 : 0 ≤ f.nr
  r1 : f.nr < 128
theorem carries_le {k n : Int} (h : carries k n = true) : n ≤ 260 ∧ 0 ≤ k ∧ k < 10 := by
  unfold carries at h
  split at h
  · simp at h
    omega
  · split at h
    · simp at h
      omega
    · simp at h
      omega
theorem ctlO_len (k : Int) (pf : Bool) (ns nr : Int) : (ctlO k pf ns nr).length ≤ 2 := by
  unfold ctlO
  split <;> simp
set_option maxRecDepth 100000 in
set_option maxHeartbeats 800000 in
theorem p_put (f : Fr) (net : Bool) (ok : PutOk f) (w0 w : World) (R : HP) (hN : ∀ w', St w0 w' R → NamesAt w') (hF : ∀ w', St w0 w' R → FirstAt w') (h : St w0 w R) :
    Calls Tryz.prog 26 #[.agg f.cells.toArray, .bool net] w fun e w' => e = .returned (.tuple #[.string (putO f net), .int .i64 0]) ∧ St w0 w' R := by
  obtain ⟨s0, s1, t0, t1, may, car, n0, n1, r0, r1⟩ := ok
  obtain ⟨a1, a2, cmd, k, pf, ns, nr, inf⟩ := f
  simp only [] at *
  obtain ⟨i1, k0, k1⟩ := carries_le car
  have h1 := h.alloc (.cells (Fr.cells ⟨a1, a2, cmd, k, pf, ns, nr, inf⟩).toArray TFr)
  have hc := c_put k pf ns nr k0 k1 n0 n1 r0 r1 w0 _ _ (hF _ h1.drop) h1
  have hm := k_may k cmd
  rw [may] at hm
  have hk := fun w hN => k_carries k (inf.size : Int) w hN
  rw [car] at hk
  unfold putO
  have z1 : (octets (adrO a1 a2 (cmd == net))).size = 2 := by rw [octets_size]; rfl
  have z2 : (octets (ctlO k pf ns nr)).size ≤ 2 := by rw [octets_size]; exact ctlO_len _ _ _ _
  have ha := fun v R h => a_put a1 a2 (cmd == net) s0 s1 t0 t1 w0 v R h
  have hmk := fun v R h => a_make a1 a2 cmd net w0 v R h
  obtain ⟨inn, hin⟩ : ∃ n, inf.size = n := ⟨_, rfl⟩
  rw [hin] at hk i1
  simp only [Fr.cells] at *
  generalize (cmd == net) = cr at *
  generalize octets (ctlO k pf ns nr) = oc at *
  generalize octets (adrO a1 a2 cr) = oa at *
  have y1 : ¬ 9223372036854775807 < oa.size + oc.size := by omega
  have y2 : ¬ 9223372036854775807 < (oa ++ oc).size + inf.size := by rw [ByteArray.size_append]; omega
  have hs := fun v R h => s_seal (oa ++ oc ++ inf) w0 v R h (by rw [ByteArray.size_append, ByteArray.size_append]; omega)
  have HN := Lib.hid hN
  have c := h1.cell
  clear hF hN h z1 z2 i1 car may
  go_enter Tryz.func26, Tryz.ntmps26
  go_upto_region 1 with fail
  generalize w.alloc _ = wa at *
  generalize w.heap.size = ga at *
  go_wp2_with fail
  refine hc.mono ?_
  rintro e w1 ⟨rfl, h2⟩
  clear hc h1 c
  have c := h2.cell
  go_wp2_with fail
  refine (hm _).mono ?_
  rintro e w2 ⟨rfl, rfl⟩
  go_wp2_with fail
  refine (hmk _ _ h2).mono ?_
  rintro e w3 ⟨rfl, h3⟩
  clear hmk
  go_wp2_with fail
  refine (ha _ _ h3).mono ?_
  rintro e w4 ⟨rfl, h4⟩
  clear ha c h2 h3
  have c := h4.cell
  go_wp2_with fail
  refine (hk _ (HN.out _ h4.drop)).mono ?_
  rintro e w5 ⟨rfl, rfl⟩
  clear hk
  go_wp2_with fail
  refine (hs _ _ h4).mono ?_
  rintro e w6 ⟨rfl, h5⟩
  go_wp2
  go_ret2
  exact ⟨rfl, h5.drop⟩
end Go.Proofs.YtoophfokbioaaaaGreatDoor
