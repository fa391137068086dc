/- The flow, further: what is set, what comes, what begins anew. The flow's View. What the flow's calls keep. The entity: what it has, as a claim; what each of its calls does to it, as plain functions. -/
import Derived.Test.YtnnahljdhdippaaGreatDoorB4
import Derived.Test.YtnnahljdhdippaaGreatDoorB2
namespace Go.Proofs.YtnnahljdhdippaaGreatDoor
open Go.RowKit
set_option maxRecDepth 100000

def Fl.back (s : Fl) : Fl := { s with vs := s.va, q := (s.q.back 0).1 }

theorem f_back (f : Nat) (s : Fl) (w0 w : World) (R : HP) (h : St w0 w (FAt TF TQ f s * R)) :
    Calls Tryz.prog 267 #[ptr f] w fun e w' => e = .returned (.tuple #[]) ∧ St w0 w' (FAt TF TQ f s.back * R) := by
  obtain ⟨qp, h1⟩ := h.f_open
  have hq := h1.eq (star_left_comm _ _ _)
  obtain ⟨vs, va, vr, peer, own, refused, k, q⟩ := s
  have c := h1.cell
  have f := h1.free
  simp only [] at *
  go_enter Tryz.func267, Tryz.ntmps267
  go_wp2_with fail
  refine (q_back qp q 0 w0 _ _ hq).mono ?_
  rintro e w1 ⟨rfl, h2⟩
  have h3 := h2.eq (star_left_comm _ _ _)
  have c3 := h3.cell
  have f3 := h3.free
  go_wp2
  go_end0
  exact ⟨rfl, (h3.set 0 (.int .i64 va)).f_shut (by simp [Fl.cells, Fl.back]) rfl⟩

theorem g_back (f : Nat) (s : Fl) (w0 w : World) (R : HP) (h : St w0 w (FAt TG TR f s * R)) :
    Calls Tryz.prog 272 #[ptr f] w fun e w' => e = .returned (.tuple #[]) ∧ St w0 w' (FAt TG TR f s.back * R) := by
  obtain ⟨qp, h1⟩ := h.f_open
  have hq := h1.eq (star_left_comm _ _ _)
  obtain ⟨vs, va, vr, peer, own, refused, k, q⟩ := s
  have c := h1.cell
  have f := h1.free
  simp only [] at *
  go_enter Tryz.func272, Tryz.ntmps272
  go_wp2_with fail
  refine (r_back qp q 0 w0 _ _ hq).mono ?_
  rintro e w1 ⟨rfl, h2⟩
  have h3 := h2.eq (star_left_comm _ _ _)
  have c3 := h3.cell
  have f3 := h3.free
  go_wp2
  go_end0
  exact ⟨rfl, (h3.set 0 (.int .i64 va)).f_shut (by simp [Fl.cells, Fl.back]) rfl⟩

def Fl.come (s : Fl) (ns : Int) : Fl × Int :=
  if s.own = true then (s, 3) else if ns % 128 = s.vr then ({ s with vr := ((ns + 1) % 128).toNat, refused := false }, 0) else if s.refused = true then (s, 2) else ({ s with refused := true }, 1)

theorem f_come (f : Nat) (s : Fl) (ns : Int) (w0 w : World) (R : HP) (h : St w0 w (FAt TF TQ f s * R)) :
    Calls Tryz.prog 263 #[ptr f, .int .i64 ns] w fun e w' => e = .returned (.int .i64 (s.come ns).2) ∧ St w0 w' (FAt TF TQ f (s.come ns).1 * R) := by
  obtain ⟨qp, h1⟩ := h.f_open
  obtain ⟨vs, va, vr, peer, own, refused, k, q⟩ := s
  have c := h1.cell
  have f := h1.free
  unfold Fl.come
  simp only [] at *
  have n1 := Int.emod_nonneg (ns + 1) (show (128 : Int) ≠ 0 by decide)
  cases own with
  | true =>
    rw [if_pos rfl]
    go_enter Tryz.func263, Tryz.ntmps263
    go_wp2
    go_ret
    exact ⟨rfl, h⟩
  | false =>
  rw [if_neg (by simp)]
  by_cases b : ns % 128 = vr
  · rw [if_pos b]
    have hb : ((ns % 128) == (vr : Int)) = true := by simpa using b
    have Hb := Lib.hid b
    have e1 : (ns % 128 + 1) % 128 = (ns + 1) % 128 := by omega
    clear b
    go_enter Tryz.func263, Tryz.ntmps263
    go_wp2_with fail
    go_quiet ((go_at_call 281; exact quiet_left (s_norm _ _)))
    go_wp2_with fail
    refine (s_add _ _ _).mono ?_
    rintro e w1 ⟨rfl, rfl⟩
    go_wp2
    go_ret
    refine ⟨rfl, St.f_shut (s := { vs := vs, va := va, vr := ((ns + 1) % 128).toNat, peer := peer, own := false, refused := false, k := k, q := q }) (((h1.drewN _).set 2 (.int .i64 ((ns + 1) % 128))).set 5 (.bool false)) ?_ rfl⟩
    simp [Fl.cells]
    omega
  · rw [if_neg b]
    have hb : ((ns % 128) == (vr : Int)) = false := by simpa using b
    clear b
    cases refused with
    | true =>
      rw [if_pos rfl]
      go_enter Tryz.func263, Tryz.ntmps263
      go_wp2_with fail
      go_quiet ((go_at_call 281; exact quiet_left (s_norm _ _)))
      go_wp2
      go_ret
      exact ⟨rfl, h.drewN _⟩
    | false =>
      rw [if_neg (by simp)]
      go_enter Tryz.func263, Tryz.ntmps263
      go_wp2_with fail
      go_quiet ((go_at_call 281; exact quiet_left (s_norm _ _)))
      go_wp2
      go_ret
      refine ⟨rfl, St.f_shut (s := { vs := vs, va := va, vr := vr, peer := peer, own := false, refused := true, k := k, q := q }) ((h1.drewN _).set 5 (.bool true)) ?_ rfl⟩
      simp [Fl.cells]

theorem g_come (f : Nat) (s : Fl) (ns : Int) (w0 w : World) (R : HP) (h : St w0 w (FAt TG TR f s * R)) :
    Calls Tryz.prog 269 #[ptr f, .int .i64 ns] w fun e w' => e = .returned (.int .i64 (s.come ns).2) ∧ St w0 w' (FAt TG TR f (s.come ns).1 * R) := by
  obtain ⟨qp, h1⟩ := h.f_open
  obtain ⟨vs, va, vr, peer, own, refused, k, q⟩ := s
  have c := h1.cell
  have f := h1.free
  unfold Fl.come
  simp only [] at *
  have n1 := Int.emod_nonneg (ns + 1) (show (128 : Int) ≠ 0 by decide)
  cases own with
  | true =>
    rw [if_pos rfl]
    go_enter Tryz.func269, Tryz.ntmps269
    go_wp2
    go_ret
    exact ⟨rfl, h⟩
  | false =>
  rw [if_neg (by simp)]
  by_cases b : ns % 128 = vr
  · rw [if_pos b]
    have hb : ((ns % 128) == (vr : Int)) = true := by simpa using b
    have Hb := Lib.hid b
    have e1 : (ns % 128 + 1) % 128 = (ns + 1) % 128 := by omega
    clear b
    go_enter Tryz.func269, Tryz.ntmps269
    go_wp2_with fail
    refine (t_norm _ _).mono ?_; rintro e w1 ⟨rfl, rfl⟩
    go_wp2_with fail
    refine (t_add _ _ _).mono ?_
    rintro e w1 ⟨rfl, rfl⟩
    go_wp2
    go_ret
    refine ⟨rfl, St.f_shut (s := { vs := vs, va := va, vr := ((ns + 1) % 128).toNat, peer := peer, own := false, refused := false, k := k, q := q }) (((h1).set 2 (.int .i64 ((ns + 1) % 128))).set 5 (.bool false)) ?_ rfl⟩
    simp [Fl.cells]
    omega
  · rw [if_neg b]
    have hb : ((ns % 128) == (vr : Int)) = false := by simpa using b
    clear b
    cases refused with
    | true =>
      rw [if_pos rfl]
      go_enter Tryz.func269, Tryz.ntmps269
      go_wp2_with fail
      refine (t_norm _ _).mono ?_; rintro e w1 ⟨rfl, rfl⟩
      go_wp2
      go_ret
      exact ⟨rfl, h⟩
    | false =>
      rw [if_neg (by simp)]
      go_enter Tryz.func269, Tryz.ntmps269
      go_wp2_with fail
      refine (t_norm _ _).mono ?_; rintro e w1 ⟨rfl, rfl⟩
      go_wp2
      go_ret
      refine ⟨rfl, St.f_shut (s := { vs := vs, va := va, vr := vr, peer := peer, own := false, refused := true, k := k, q := q }) ((h1).set 5 (.bool true)) ?_ rfl⟩
      simp [Fl.cells]

theorem f_set_peer (f : Nat) (s : Fl) (b : Bool) (w0 w : World) (R : HP) (h : St w0 w (FAt TF TQ f s * R)) :
    Calls Tryz.prog 266 #[ptr f, .bool b] w fun e w' => e = .returned (.tuple #[]) ∧ St w0 w' (FAt TF TQ f { s with peer := b } * R) := by
  obtain ⟨qp, h1⟩ := h.f_open
  obtain ⟨vs, va, vr, peer, own, refused, k, q⟩ := s
  have c := h1.cell
  have f := h1.free
  go_enter Tryz.func266, Tryz.ntmps266
  go_wp2
  go_end0
  exact ⟨rfl, (h1.set 3 (.bool b)).f_shut (by simp [Fl.cells]) rfl⟩

theorem f_set_own (f : Nat) (s : Fl) (b : Bool) (w0 w : World) (R : HP) (h : St w0 w (FAt TF TQ f s * R)) :
    Calls Tryz.prog 162 #[ptr f, .bool b] w fun e w' => e = .returned (.bool (s.own != b)) ∧ St w0 w' (FAt TF TQ f { s with own := b } * R) := by
  obtain ⟨qp, h1⟩ := h.f_open
  obtain ⟨vs, va, vr, peer, own, refused, k, q⟩ := s
  have c := h1.cell
  have f := h1.free
  cases own <;> cases b
  all_goals
    go_enter Tryz.func162, Tryz.ntmps162
    go_wp2
    go_ret
    refine ⟨rfl, ?_⟩
    first | exact h | exact (h1.set 4 (.bool true)).f_shut (by simp [Fl.cells]) rfl | exact (h1.set 4 (.bool false)).f_shut (by simp [Fl.cells]) rfl

def Fl.reset (s : Fl) : Fl := { s with vs := 0, va := 0, vr := 0, peer := false, own := false, refused := false, q := (s.q.back 0).1 }

theorem f_reset (f : Nat) (s : Fl) (w0 w : World) (R : HP) (h : St w0 w (FAt TF TQ f s * R)) :
    Calls Tryz.prog 262 #[ptr f] w fun e w' => e = .returned (.tuple #[]) ∧ St w0 w' (FAt TF TQ f s.reset * R) := by
  obtain ⟨qp, h1⟩ := h.f_open
  have hq := h1.eq (star_left_comm _ _ _)
  obtain ⟨vs, va, vr, peer, own, refused, k, q⟩ := s
  have c := h1.cell
  have f := h1.free
  simp only [] at *
  go_enter Tryz.func262, Tryz.ntmps262
  go_wp2_with fail
  refine (q_back qp q 0 w0 _ _ hq).mono ?_
  rintro e w1 ⟨rfl, h2⟩
  have h3 := h2.eq (star_left_comm _ _ _)
  have c3 := h3.cell
  have f3 := h3.free
  go_wp2
  go_end0
  refine ⟨rfl, ?_⟩
  have h4 := (((((h3.set 0 (.int .i64 0)).set 1 (.int .i64 0)).set 2 (.int .i64 0)).set 3 (.bool false)).set 4 (.bool false)).set 5 (.bool false)
  exact h4.f_shut (by simp [Fl.cells, Fl.reset]) rfl

theorem g_reset (f : Nat) (s : Fl) (w0 w : World) (R : HP) (h : St w0 w (FAt TG TR f s * R)) :
    Calls Tryz.prog 268 #[ptr f] w fun e w' => e = .returned (.tuple #[]) ∧ St w0 w' (FAt TG TR f s.reset * R) := by
  obtain ⟨qp, h1⟩ := h.f_open
  have hq := h1.eq (star_left_comm _ _ _)
  obtain ⟨vs, va, vr, peer, own, refused, k, q⟩ := s
  have c := h1.cell
  have f := h1.free
  simp only [] at *
  go_enter Tryz.func268, Tryz.ntmps268
  go_wp2_with fail
  refine (r_back qp q 0 w0 _ _ hq).mono ?_
  rintro e w1 ⟨rfl, h2⟩
  have h3 := h2.eq (star_left_comm _ _ _)
  have c3 := h3.cell
  have f3 := h3.free
  go_wp2
  go_end0
  refine ⟨rfl, ?_⟩
  have h4 := (((((h3.set 0 (.int .i64 0)).set 1 (.int .i64 0)).set 2 (.int .i64 0)).set 3 (.bool false)).set 4 (.bool false)).set 5 (.bool false)
  exact h4.f_shut (by simp [Fl.cells, Fl.reset]) rfl

def Fl.clear (s : Fl) : Fl := { s with vs := s.va, q := ⟨s.q.most, [], 0⟩ }

theorem f_clear (f : Nat) (s : Fl) (w0 w : World) (R : HP) (h : St w0 w (FAt TF TQ f s * R)) (ok : s.Ok) :
    Calls Tryz.prog 153 #[ptr f] w fun e w' => e = .returned (.int .i64 s.q.l.length) ∧ St w0 w' (FAt TF TQ f s.clear * R) := by
  obtain ⟨qp, h1⟩ := h.f_open
  obtain ⟨vs, va, vr, peer, own, refused, k, q⟩ := s
  have c := h1.cell
  have f := h1.free
  have h2 := h1.set 0 (.int .i64 va)
  have c2 := h2.cell
  have okq := ok.q
  simp only [] at *
  go_enter Tryz.func153, Tryz.ntmps153
  go_wp2_with fail
  refine (q_clear qp q w0 _ _ (h2.eq (star_left_comm _ _ _)) okq).mono ?_
  rintro e w1 ⟨rfl, h3⟩
  go_wp2
  go_ret
  exact ⟨rfl, (h3.eq (star_left_comm _ _ _)).f_shut (by simp [Fl.cells, Fl.clear]) rfl⟩

theorem g_clear (f : Nat) (s : Fl) (w0 w : World) (R : HP) (h : St w0 w (FAt TG TR f s * R)) (ok : s.Ok) :
    Calls Tryz.prog 167 #[ptr f] w fun e w' => e = .returned (.int .i64 s.q.l.length) ∧ St w0 w' (FAt TG TR f s.clear * R) := by
  obtain ⟨qp, h1⟩ := h.f_open
  obtain ⟨vs, va, vr, peer, own, refused, k, q⟩ := s
  have c := h1.cell
  have f := h1.free
  have h2 := h1.set 0 (.int .i64 va)
  have c2 := h2.cell
  have okq := ok.q
  simp only [] at *
  go_enter Tryz.func167, Tryz.ntmps167
  go_wp2_with fail
  refine (r_clear qp q w0 _ _ (h2.eq (star_left_comm _ _ _)) okq).mono ?_
  rintro e w1 ⟨rfl, h3⟩
  go_wp2
  go_ret
  exact ⟨rfl, (h3.eq (star_left_comm _ _ _)).f_shut (by simp [Fl.cells, Fl.clear]) rfl⟩

end Go.Proofs.YtnnahljdhdippaaGreatDoor

namespace Go.Proofs.YtnnahljdhdippaaGreatDoor
open Go.RowKit
set_option maxRecDepth 100000

/-- What View answers. -/
def Fl.view (s : Fl) : Array Value := #[.int .i64 s.vs, .int .i64 s.va, .int .i64 s.vr, .bool s.peer, .bool s.own, .bool s.refused, .int .i64 s.q.sent, .int .i64 ((s.q.l.length : Int) - s.q.sent)]

set_option maxHeartbeats 400000 in
theorem f_view (f : Nat) (s : Fl) (w0 w : World) (R : HP) (h : St w0 w (FAt TF TQ f s * R)) (ok : s.Ok) :
    Calls Tryz.prog 81 #[ptr f] w fun e w' => e = .returned (.agg s.view) ∧ St w0 w' (FAt TF TQ f s * R) := by
  obtain ⟨qp, h1⟩ := h.f_open
  obtain ⟨vs, va, vr, peer, own, refused, k, q⟩ := s
  have c := h1.cell
  have f := h1.free
  have okq := ok.q
  simp only [] at *
  have h2 := (h1.alloc (.cells #[.int .i64 0, .int .i64 0, .int .i64 0, .bool false, .bool false, .bool false, .int .i64 0, .int .i64 0] 47)).alloc (.cells #[.int .i64 vs, .int .i64 va, .int .i64 vr, .bool peer, .bool own, .bool refused] 284)
  have hq := h2.eq (show _ = QAt TQ qp q * _ from star_4 _ _ _ _ _)
  have lt := h1.lt
  go_enter Tryz.func81, Tryz.ntmps81
  go_upto_region 4 with fail
  generalize hw2 : (w.alloc (.cells #[.int .i64 0, .int .i64 0, .int .i64 0, .bool false, .bool false, .bool false, .int .i64 0, .int .i64 0] 47)).alloc (.cells #[.int .i64 vs, .int .i64 va, .int .i64 vr, .bool peer, .bool own, .bool refused] 284) = w2 at *
  have c2 := h2.cell
  have c3 := (h2.eq (star_left_comm _ _ _)).cell
  have f3 := (h2.eq (star_left_comm _ _ _)).free
  have c4 := (h2.eq (star_3 _ _ _ _)).cell
  have f4 := (h2.eq (star_3 _ _ _ _)).free
  simp only [World.size_alloc] at *
  clear hw2 c f
  generalize hg : w.heap.size = g at *
  have k0 : w2.cell? ⟨g + 1, 0, none⟩ = some (.int .i64 vs) := c2 0
  have k1 : w2.cell? ⟨g + 1, 1, none⟩ = some (.int .i64 va) := c2 1
  have k2 : w2.cell? ⟨g + 1, 2, none⟩ = some (.int .i64 vr) := c2 2
  have k3 : w2.cell? ⟨g + 1, 3, none⟩ = some (.bool peer) := c2 3
  have k4 : w2.cell? ⟨g + 1, 4, none⟩ = some (.bool own) := c2 4
  have k5 : w2.cell? ⟨g + 1, 5, none⟩ = some (.bool refused) := c2 5
  have k6 : w2.cell? ⟨f, 7, none⟩ = some (ptr qp) := c4 7
  clear hg c2 c4 f4
  have hne : f ≠ g := by omega
  have hne2 : g ≠ f := by omega
  go_region_held3 (fun w' => w'.cell? ⟨g + 1, 0, none⟩ = some (.int .i64 vs) ∧ w'.cell? ⟨g + 1, 1, none⟩ = some (.int .i64 va) ∧ w'.cell? ⟨g + 1, 2, none⟩ = some (.int .i64 vr) ∧ w'.cell? ⟨g + 1, 3, none⟩ = some (.bool peer) ∧ w'.cell? ⟨g + 1, 4, none⟩ = some (.bool own) ∧ w'.cell? ⟨g + 1, 5, none⟩ = some (.bool refused) ∧ w'.cell? ⟨f, 7, none⟩ = some (ptr qp)) (first | (with_reducible exact ⟨k0, k1, k2, k3, k4, k5, k6⟩) | (simp only [World.cell?_drew]; with_reducible exact ⟨k0, k1, k2, k3, k4, k5, k6⟩) | (with_reducible exact ⟨m0, m1, m2, m3, m4, m5, m6⟩) | go_keep) (first | (go_at_call 151; refine (q_sent qp q w0 _ _ hq.drew).mono ?_; rintro e w5 ⟨rfl, rfl⟩) | (go_at_call 152; refine (q_left qp q w0 _ _ hq.drew okq).mono ?_; rintro e w6 ⟨rfl, n, hw6⟩; have h6 : St w0 w6 _ := hw6 ▸ h2.drew.drewN n; clear hw6; have m0 := (h6.cell 0).trans (show _ = some (Value.int .i64 vs) from rfl); have m1 := (h6.cell 1).trans (show _ = some (Value.int .i64 va) from rfl); have m2 := (h6.cell 2).trans (show _ = some (Value.int .i64 vr) from rfl); have m3 := (h6.cell 3).trans (show _ = some (Value.bool peer) from rfl); have m4 := (h6.cell 4).trans (show _ = some (Value.bool own) from rfl); have m5 := (h6.cell 5).trans (show _ = some (Value.bool refused) from rfl); have m6 := ((h6.eq (star_3 _ _ _ _)).cell 7).trans (show _ = some (ptr qp) from rfl); have c6 := (h6.eq (star_left_comm _ _ _)).cell; have f6 := (h6.eq (star_left_comm _ _ _)).free))
  go_wp2
  have h9 := (((((((((h6.eq (star_left_comm _ _ _)).set 0 (.int .i64 vs)).set 1 (.int .i64 va)).set 2 (.int .i64 vr)).set 3 (.bool peer)).set 4 (.bool own)).set 5 (.bool refused)).set 6 (.int .i64 q.sent)).set 7 (.int .i64 ((q.l.length : Int) - q.sent)))
  generalize ((((((((w6.setCell ⟨g, 0, none⟩ (.int .i64 vs)).setCell ⟨g, 1, none⟩ (.int .i64 va)).setCell ⟨g, 2, none⟩ (.int .i64 vr)).setCell ⟨g, 3, none⟩ (.bool peer)).setCell ⟨g, 4, none⟩ (.bool own)).setCell ⟨g, 5, none⟩ (.bool refused)).setCell ⟨g, 6, none⟩ (.int .i64 q.sent)).setCell ⟨g, 7, none⟩ (.int .i64 ((q.l.length : Int) - q.sent))) = w9 at *
  have c9 := h9.cell
  refine bodyPost_ret (v := .agg (Fl.view ⟨vs, va, vr, peer, own, refused, k, q⟩)) (by simp [results, Tryz.results81, go_sem, Fl.view, c9]) rfl ⟨rfl, ?_⟩
  exact h9.drop.drop.f_shut rfl rfl
end Go.Proofs.YtnnahljdhdippaaGreatDoor

namespace Go.Proofs.YtnnahljdhdippaaGreatDoor
open Go.RowKit
set_option maxRecDepth 100000

theorem i64_and255 (n : Int) : bits .and .i64 n 255 = n % 256 := by
  have h255 : (BitVec.ofInt 64 255).toNat = 2 ^ 8 - 1 := by decide
  have key : (BitVec.ofInt 64 n &&& BitVec.ofInt 64 255).toNat = (n % ((2 ^ 64 : Nat) : Int)).toNat % 2 ^ 8 := by
    rw [BitVec.toNat_and, BitVec.toNat_ofInt, h255, Nat.and_two_pow_sub_one_eq_mod]
  show IntKind.i64.wrap ((BitVec.ofInt 64 n &&& BitVec.ofInt 64 255).toNat : Nat) = n % 256
  rw [key, IntKind.wrap_i64]
  omega

theorem push_sent (q : Q) (s : ByteArray) : (q.push s).1.sent = q.sent := by unfold Q.push; split <;> (try split) <;> rfl
theorem back0_sent (q : Q) : (q.back 0).1 = { q with sent := 0 } := by unfold Q.back; rw [if_neg (by omega)]; rfl

theorem Fl.Ok.new (k : Int) (n : Int) : Fl.Ok ⟨0, 0, 0, false, false, false, k, ⟨(max 1 (min n 256)).toNat, [], 0⟩⟩ := ⟨by simp, by simp, by simp, Q.Ok.new n, by simp, by simp only []; omega⟩
theorem Fl.Ok.push {s : Fl} (ok : s.Ok) (d : ByteArray) : Fl.Ok { s with q := (s.q.push d).1 } := ⟨ok.s1, ok.a1, ok.r1, ok.q.push d, by simp only [push_sent]; exact ok.w, by simp only [push_sent]; exact ok.n⟩
theorem Fl.Ok.take {s : Fl} (ok : s.Ok) : s.take.1.Ok := by
  unfold Fl.take
  split
  · exact ok
  · rename_i h
    simp only [not_or] at h
    have hw := ok.w
    have h3 := h.2.2
    unfold roomOf at h3
    have hs : s.q.take.1.sent = s.q.sent + 1 := by unfold Q.take; rw [if_pos (by omega)]
    have := ok.s1
    have := ok.a1
    refine ⟨by simp only []; omega, ok.a1, ok.r1, ok.q.take, ?_, ?_⟩
    · simp only [hs]
      omega
    · simp only [hs]
      omega
theorem Fl.Ok.ack {s : Fl} (ok : s.Ok) (nr : Int) : (s.ack nr).1.Ok := by
  unfold Fl.ack
  split
  · rename_i h
    have hw := ok.w
    have := ok.s1
    have := ok.a1
    have hn := ok.n
    have hs : (s.q.done ((nr - s.va) % 128)).1.sent = s.q.sent - ((nr - s.va) % 128).toNat := by unfold Q.done; rw [if_neg (by omega)]
    refine ⟨ok.s1, by simp only []; omega, ok.r1, ok.q.done _, ?_, ?_⟩
    · simp only [hs]
      omega
    · simp only [hs]
      omega
  · exact ok
theorem Fl.Ok.back {s : Fl} (ok : s.Ok) : s.back.Ok := ⟨ok.a1, ok.a1, ok.r1, ok.q.back 0, by simp only [Fl.back, back0_sent]; simp, by simp only [Fl.back, back0_sent]; omega⟩
theorem Fl.Ok.come {s : Fl} (ok : s.Ok) (ns : Int) : (s.come ns).1.Ok := by
  unfold Fl.come
  split
  · exact ok
  · split
    · exact ⟨ok.s1, ok.a1, by simp only []; omega, ok.q, ok.w, ok.n⟩
    · split
      · exact ok
      · exact ⟨ok.s1, ok.a1, ok.r1, ok.q, ok.w, ok.n⟩
theorem Fl.Ok.peer {s : Fl} (ok : s.Ok) (b : Bool) : Fl.Ok { s with peer := b } := ⟨ok.s1, ok.a1, ok.r1, ok.q, ok.w, ok.n⟩
theorem Fl.Ok.own {s : Fl} (ok : s.Ok) (b : Bool) : Fl.Ok { s with own := b } := ⟨ok.s1, ok.a1, ok.r1, ok.q, ok.w, ok.n⟩
theorem Fl.Ok.reset {s : Fl} (ok : s.Ok) : s.reset.Ok := ⟨by simp [Fl.reset], by simp [Fl.reset], by simp [Fl.reset], ok.q.back 0, by simp only [Fl.reset, back0_sent]; simp, by simp only [Fl.reset, back0_sent]; omega⟩
theorem Fl.Ok.clear {s : Fl} (ok : s.Ok) : s.clear.Ok := ⟨ok.a1, ok.a1, ok.r1, ok.q.clear, by simp [Fl.clear], by simp only [Fl.clear]; omega⟩

/-- What never changes. -/
structure Fl.Like (s t : Fl) : Prop where
  k : t.k = s.k
  most : t.q.most = s.q.most
theorem Fl.Like.refl (s : Fl) : s.Like s := ⟨rfl, rfl⟩
theorem Fl.Like.trans {a b c : Fl} (h : a.Like b) (g : b.Like c) : a.Like c := ⟨g.k.trans h.k, g.most.trans h.most⟩
theorem push_most (q : Q) (d : ByteArray) : (q.push d).1.most = q.most := by unfold Q.push; split <;> (try split) <;> rfl
theorem take_most (q : Q) : q.take.1.most = q.most := by unfold Q.take; split <;> rfl
theorem done_most (q : Q) (n : Int) : (q.done n).1.most = q.most := by unfold Q.done; split <;> rfl
theorem back_most (q : Q) (n : Int) : (q.back n).1.most = q.most := by unfold Q.back; split <;> rfl
theorem like_push (s : Fl) (d : ByteArray) : s.Like { s with q := (s.q.push d).1 } := ⟨rfl, push_most _ _⟩
theorem like_take (s : Fl) : s.Like s.take.1 := by unfold Fl.take; split; exact .refl s; exact ⟨rfl, take_most _⟩
theorem like_ack (s : Fl) (nr : Int) : s.Like (s.ack nr).1 := by unfold Fl.ack; split; exact ⟨rfl, done_most _ _⟩; exact .refl s
theorem like_back (s : Fl) : s.Like s.back := ⟨rfl, back_most _ _⟩
theorem like_come (s : Fl) (ns : Int) : s.Like (s.come ns).1 := by unfold Fl.come; split; exact .refl s; split; exact ⟨rfl, rfl⟩; split; exact .refl s; exact ⟨rfl, rfl⟩
theorem like_reset (s : Fl) : s.Like s.reset := ⟨rfl, back_most _ _⟩
theorem like_clear (s : Fl) : s.Like s.clear := ⟨rfl, rfl⟩
end Go.Proofs.YtnnahljdhdippaaGreatDoor

namespace Go.Proofs.YtnnahljdhdippaaGreatDoor
open Go.RowKit

/-! runs: a map of timers -/
def kInt : KD Int := ⟨fun n => .int .i64 n, fun n => (Lit.int .i64 n).wf = true, fun a b h => by simpa using h⟩
theorem kok (n : Int) (h1 : -9223372036854775808 ≤ n) (h2 : n < 9223372036854775808) : kInt.ok n := WalkArith.wf_i64 (by omega)
abbrev vBool (b : Bool) : Value := .bool b
abbrev BM := List (Int × Bool)
theorem tyBM : MTy Tryz.prog 200 3 4 kInt :=
  ⟨Tryz.underlying200, Maps.int_keyed Tryz.underlying3, fun _ h => ⟨_, Maps.keyOf_int_mk Tryz.underlying3 h⟩⟩
theorem zeroBool (w : World) : (zeroValue 4).run Tryz.prog w = .ok (.bool false) w := by kernel_rfl
def bOf (m : BM) (t : Int) : Bool := (mlook m t).getD false
theorem mlook_mput_same {β : Type} : ∀ (l : List (Int × β)) (k : Int) (v : β), mlook (mput l k v) k = some v
  | [], k, v => by simp [mput, mlook]
  | p :: l, k, v => by
    unfold mput
    by_cases h : p.1 = k
    · rw [if_pos h]; simp [mlook]
    · rw [if_neg h]
      unfold mlook
      rw [if_neg h]
      exact mlook_mput_same l k v
theorem mlook_mput_ne {β : Type} {k k' : Int} {v : β} (h : k' ≠ k) : ∀ l : List (Int × β), mlook (mput l k v) k' = mlook l k'
  | [] => by simp [mput, mlook, Ne.symm h]
  | p :: l => by
    unfold mput
    split
    · rename_i hp
      unfold mlook
      rw [if_neg (by simpa using Ne.symm h), if_neg (by rw [hp]; exact Ne.symm h)]
    · conv => lhs; unfold mlook
      conv => rhs; unfold mlook
      split
      · rfl
      · exact mlook_mput_ne h l
theorem bOf_put (m : BM) (t : Int) (b : Bool) (u : Int) : bOf (mput m t b) u = if u = t then b else bOf m u := by
  unfold bOf
  split
  · rename_i h; rw [h, mlook_mput_same]; rfl
  · rename_i h; rw [mlook_mput_ne h]
theorem St.bm {w0 w : World} {R : HP} {b : Nat} {m : BM} (h : St w0 w (MAt kInt vBool b m * R)) (t : Int) (hk : kInt.ok t) :
    (Instr.lookup 200 (.map (some b)) (.int .i64 t) false).run Tryz.prog w = .ok (.bool (bOf m t)) w := by
  have := h.map_look tyBM t hk (zeroBool _) false
  rw [show ((mlook m t).map vBool).getD (.bool false) = .bool (bOf m t) by unfold bOf; cases mlook m t <;> rfl] at this
  exact this

/-! frames, effects -/
structure Fr where
  sapi : Int
  tei : Int
  cmd : Bool
  kind : Int
  pf : Bool
  ns : Int
  nr : Int
  info : ByteArray
abbrev Fr.cells (f : Fr) : List Value := [.int .i64 f.sapi, .int .i64 f.tei, .bool f.cmd, .int .i64 f.kind, .bool f.pf, .int .i64 f.ns, .int .i64 f.nr, .string f.info]
structure Fx where
  kind : Int
  fr : Fr
  data : ByteArray
  timer : Int
abbrev Fx.cells (x : Fx) : List Value := [.int .i64 x.kind, .int .i64 x.fr.sapi, .int .i64 x.fr.tei, .bool x.fr.cmd, .int .i64 x.fr.kind, .bool x.fr.pf, .int .i64 x.fr.ns, .int .i64 x.fr.nr, .string x.fr.info, .string x.data, .int .i64 x.timer]
abbrev noStr : ByteArray := ⟨#[]⟩
abbrev Fr.none : Fr := ⟨0, 0, false, 0, false, 0, 0, noStr⟩
abbrev Fx.of (k : Int) (d : ByteArray) : Fx := ⟨k, .none, d, 0⟩
abbrev Fx.tim (k t : Int) : Fx := ⟨k, .none, noStr, t⟩

/-! the entity -/
structure En where
  most : Int
  state : Int
  tei : Int
  tries : Int
  asked : Bool
  t2 : Bool
  t3 : Bool
  units : List ByteArray
  fl : Fl
  out : List Fx

def En.tell (x : En) (f : Fx) : En := { x with out := x.out ++ [f] }
def En.told (x : En) (k : Int) (d : ByteArray) : En := x.tell (.of k d)
def numb (k : Int) : Bool := decide (0 ≤ k) && decide (k ≤ 3)
def En.sendD (x : En) (k : Int) (c p : Bool) (ns : Int) (i : ByteArray) : En := x.tell ⟨0, ⟨0, x.tei, c, k, p, ns, if numb k = true then (x.fl.vr : Int) else 0, i⟩, noStr, 0⟩
def En.send (x : En) (k : Int) (c p : Bool) : En := x.sendD k c p 0 noStr
def En.runs (x : En) (t : Int) : Bool := if t = 200 then x.t2 else if t = 203 then x.t3 else false
def En.setT (x : En) (t : Int) (b : Bool) : En := if t = 200 then { x with t2 := b } else { x with t3 := b }
def En.start (x : En) (t : Int) : En := (x.setT t true).tell (.tim 9 t)
def En.stop (x : En) (t : Int) : En := if x.runs t = true then (x.setT t false).tell (.tim 10 t) else x
def En.setFl (x : En) (v : Fl) : En := { x with fl := v }
def En.setState (x : En) (v : Int) : En := { x with state := v }
def En.setTries (x : En) (v : Int) : En := { x with tries := v }
def En.setAsked (x : En) (v : Bool) : En := { x with asked := v }
def En.setUnits (x : En) (v : List ByteArray) : En := { x with units := v }
def En.setTei (x : En) (v : Int) : En := { x with tei := v }
def En.setOut (x : En) (v : List Fx) : En := { x with out := v }
abbrev Fl.withPeer (s : Fl) (b : Bool) : Fl := { s with peer := b }
abbrev Fl.withOwn (s : Fl) (b : Bool) : Fl := { s with own := b }
abbrev Fl.withQ (s : Fl) (q : Q) : Fl := { s with q := q }
def En.call (x : En) : En := (((((x.setTries (0)).send 4 true true).stop 203).start 200).setState (5))
def En.anew (x : En) (l : ByteArray) : En := ((x.told 7 l).setAsked (false)).call
def En.take1 (x : En) : En :=
  let y := (x.setFl (x.fl.take.1)).sendD 0 true false x.fl.take.2.1 x.fl.take.2.2.1
  if x.t2 = true then y else (y.stop 203).start 200
def En.goOnK : Nat → En → En
  | 0, x => x
  | n + 1, x => if x.fl.take.2.2.2 = true then En.goOnK n x.take1 else x
def En.goOn (x : En) : En := if x.state = 7 then En.goOnK 128 x else x
def En.open1 (x : En) : En := ((((x.setFl (x.fl.reset)).stop 200).start 203).setState (7)).goOn
def En.superv (x : En) (c p : Bool) : En := x.send (if x.fl.own = true then 2 else 1) c p
def En.inquire (x : En) : En := (x.superv true true).start 200
def En.end1 (x : En) : En := ((((x.setFl (x.fl.clear)).stop 200).stop 203).setState (4))
def En.up (x : En) : Bool := x.state == 7 || x.state == 8
def En.establish (x : En) : En × Int :=
  if x.state = 1 then ((x.setState (3)).told 8 noStr, 0)
  else if x.state = 2 then ((x.setState (3)), 0)
  else if x.state = 6 then (x, 12)
  else if x.state = 5 then (((x.setFl (x.fl.clear)).setAsked (true)), 0)
  else if x.state = 7 ∨ x.state = 8 then (((x.setFl (x.fl.clear)).setAsked (true)).call, 0)
  else if x.state = 4 then ((x.setAsked (true)).call, 0)
  else (x, 0)
def En.release (x : En) : En × Int :=
  if x.state = 4 then (x.told 4 noStr, 0)
  else if x.up = true then (((((((x.setFl (x.fl.clear)).setTries (0)).send 7 true true).stop 203).start 200).setState (6)), 0)
  else (x, 12)
def En.data (x : En) (s : ByteArray) : En × Int :=
  if x.up = false ∧ (x.state ≠ 5 ∨ x.asked = true) then (x, 12)
  else if (x.fl.q.push s).2 = 0 then ((x.setFl ((Fl.withQ (x.fl) ((x.fl.q.push s).1)))).goOn, 0)
  else ((x.setFl ((Fl.withQ (x.fl) ((x.fl.q.push s).1)))), (x.fl.q.push s).2)
def En.unit (x : En) (s : ByteArray) : En × Int :=
  if 4 ≤ x.state then (x.sendD 6 true false 0 s, 0)
  else if 256 ≤ x.units.length then (x, 10)
  else if x.state = 1 then (((x.setUnits (x.units ++ [s])).setState (2)).told 8 noStr, 0)
  else ((x.setUnits (x.units ++ [s])), 0)
def En.own (x : En) (b : Bool) : En × Int :=
  if x.up = false then (x, 12)
  else if x.fl.own = b then (x, 0)
  else ((x.setFl ((Fl.withOwn (x.fl) (b)))).superv false false, 0)
def En.done (x : En) : En := (x.setOut ([]))
def En.ask (x : En) (a : Int) (d : ByteArray) : En × List Fx × Int :=
  if a < 0 ∨ 5 < a then (x, [], 2)
  else if (a = 2 ∨ a = 3) ∧ 260 < d.size then (x, [], 5)
  else
    let y := if a = 0 then x.establish else if a = 1 then x.release else if a = 2 then x.data d else if a = 3 then x.unit d else x.own (a == 4)
    (y.1.done, y.1.out, y.2)
def En.assign (x : En) (t : Int) : En × List Fx × Int :=
  if t < 0 ∨ 126 < t then (x, [], 2)
  else if 4 ≤ x.state then (x, [], 13)
  else
    let y := x.units.foldl (fun y s => (y.unit s).1) (((x.setTei (t)).setState (4)).setUnits ([]))
    let z := if x.state = 3 then (y.setAsked (true)).call else y
    (z.done, z.out, 0)
def En.remove (x : En) : En × List Fx × Int :=
  if x.state = 1 then (x, [], 11)
  else
    let y := x.end1
    let z := if x.state = 3 ∨ x.state = 5 ∨ x.state = 7 ∨ x.state = 8 then y.told 3 noStr else if x.state = 6 then y.told 4 noStr else y
    (((((z.done).setTei (-1)).setState (1)).setUnits ([])), z.out, 0)

/-! frames that come -/
def En.strange (x : En) (f : Fr) : En := x.told 7 (if f.pf = true then ⟨#[67]⟩ else ⟨#[68]⟩)
def En.inAssigned (x : En) (f : Fr) : En :=
  if f.kind = 4 then ((x.send 8 false f.pf).told 1 noStr).open1
  else if f.kind = 7 then x.send 5 false f.pf
  else if f.kind = 8 then x.strange f
  else if f.kind = 5 ∧ f.pf = false then (x.setAsked (true)).call
  else x
def En.unsure (x : En) : En := if x.fl.q.sent ≠ 0 then (x.setFl (x.fl.clear)).told 1 noStr else x
def En.inConnecting (x : En) (f : Fr) : En :=
  if f.kind = 4 then x.send 8 false f.pf
  else if f.kind = 7 then x.send 5 false f.pf
  else if f.kind = 8 ∧ f.pf = false then x.told 7 ⟨#[68]⟩
  else if f.kind = 8 then (((if x.asked = true then x.told 2 noStr else x.unsure)).setAsked (false)).open1
  else if f.kind = 5 ∧ f.pf = true then (x.told 3 noStr).end1
  else x
def En.inReleasing (x : En) (f : Fr) : En :=
  if f.kind = 4 then x.send 5 false f.pf
  else if f.kind = 7 then x.send 8 false f.pf
  else if f.kind = 8 ∧ f.pf = false then x.told 7 ⟨#[68]⟩
  else if f.pf = true ∧ (f.kind = 8 ∨ f.kind = 5) then (x.told 4 noStr).end1
  else x
def En.count (x : En) (n : Int) : En :=
  if x.fl.va = x.fl.vs then (x.stop 200).start 203
  else if 0 < n then x.start 200
  else x
def En.supervised (x : En) (f : Fr) : En :=
  let x1 := if f.cmd = true ∧ f.pf = true then x.superv false true else if f.pf = true ∧ x.state = 7 then x.told 7 ⟨#[65]⟩ else x
  let x2 := (x1.setFl ((Fl.withPeer (x1.fl) (f.kind == 2))))
  let a := x2.fl.ack f.nr
  let x3 := (x2.setFl (a.1))
  if a.2.2 ≠ 0 then x3.anew ⟨#[74]⟩
  else if x.state = 8 ∧ (f.cmd = true ∨ f.pf = false) then x3
  else if x.state = 7 ∧ f.kind = 1 then (x3.count a.2.1).goOn
  else
    let x4 := if f.kind ≠ 2 then (x3.stop 200).start 203 else (if x.state = 7 then x3.stop 203 else x3).start 200
    let x5 := if x.state = 8 ∨ f.kind = 3 then (x4.setFl (x4.fl.back)) else x4
    (x5.setState (7)).goOn
def En.info (x : En) (f : Fr) : En :=
  let c := x.fl.come f.ns
  let x0 := (x.setFl (c.1))
  let x1 := if c.2 = 0 then (x0.told 5 f.info).superv false f.pf
    else if c.2 = 1 then x0.send 3 false f.pf
    else if f.pf = true then x0.superv false true else x0
  let a := x1.fl.ack f.nr
  let x2 := (x1.setFl (a.1))
  if a.2.2 ≠ 0 then x2.anew ⟨#[74]⟩
  else if x.state = 7 then (if x2.fl.peer = false then x2.count a.2.1 else x2).goOn
  else x2
def En.inOpen (x : En) (f : Fr) : En :=
  if f.kind = 4 then (((x.send 8 false f.pf).told 7 ⟨#[70]⟩).unsure).open1
  else if f.kind = 7 then ((x.send 8 false f.pf).told 3 noStr).end1
  else if f.kind = 8 then x.strange f
  else if f.kind = 5 then x.anew (if f.pf = true then ⟨#[66]⟩ else ⟨#[69]⟩)
  else if f.kind = 9 then x.anew ⟨#[75]⟩
  else if f.kind = 0 then x.info f
  else x.supervised f
def mayK (k : Int) (c : Bool) : Bool := if k = 0 ∨ k = 4 ∨ k = 6 ∨ k = 7 then c else if k = 5 ∨ k = 8 ∨ k = 9 then !c else numb k
def carries (k n : Int) : Bool := if k = 0 ∨ k = 6 then decide (0 ≤ n) && decide (n ≤ 260) else if k = 9 then n == 5 else n == 0 && (decide (0 ≤ k) && decide (k < 10))
def En.frame (x : En) (f : Fr) : En × List Fx :=
  if x.tei < 0 ∨ mayK f.kind f.cmd = false ∨ carries f.kind f.info.size = false then (x, [])
  else
    let y := if f.kind = 6 then x.told 6 f.info else if x.state = 4 then x.inAssigned f else if x.state = 5 then x.inConnecting f else if x.state = 6 then x.inReleasing f else x.inOpen f
    (y.done, y.out)
def En.again (x : En) (k : Int) (l : ByteArray) (g : Int) : En :=
  if x.tries = x.most then ((x.told 7 l).told g noStr).end1
  else ((x.setTries (x.tries + 1)).send k true true).start 200
def En.timeout (x : En) (t : Int) : En × List Fx :=
  if x.runs t = false then (x, [])
  else
    let x0 := x.setT t false
    let y := if x.state = 5 then x0.again 4 ⟨#[71]⟩ 3 else if x.state = 6 then x0.again 7 ⟨#[72]⟩ 4
      else if x.state = 7 then (((x0.setTries (0)).inquire).setState (8))
      else if x.state = 8 then (if x.tries = x.most then x0.anew ⟨#[73]⟩ else (x0.setTries (x.tries + 1)).inquire)
      else x0
    (y.done, y.out)

/-! as a claim -/
abbrev TEn : TypeId := 204
abbrev TFx : TypeId := 220
theorem tyFx : ETy Tryz.prog 131 TFx 11 104 Fx.cells :=
  ⟨Tryz.underlying131, ⟨.agg #[.int .i64 0, .int .i64 0, .int .i64 0, .bool false, .int .i64 0, .bool false, .int .i64 0, .int .i64 0, .string noStr, .string noStr, .int .i64 0], by kernel_rfl, rfl⟩, fun _ => rfl, fun b u hu => by simp [Fx.cells] at hu; rcases hu with rfl | rfl | rfl | rfl | rfl | rfl | rfl | rfl | rfl | rfl | rfl <;> rfl, by decide, by decide⟩
abbrev En.cells (x : En) (rm fp : Nat) (uv ov : Value) : Array Value := #[.int .i64 x.most, .int .i64 x.state, .int .i64 x.tei, .int .i64 x.tries, .bool x.asked, .map (some rm), uv, ptr fp, ov]
def EnAt (e : Nat) (x : En) : HP := hex fun z : (Nat × Nat × Value × Value) × {l : BM // ∀ t, bOf l t = x.runs t} =>
  blk e (.cells (x.cells z.1.1 z.1.2.1 z.1.2.2.1 z.1.2.2.2) TEn (0, 0)) * (LAt TFx 11 Fx.cells z.1.2.2.2 x.out * (MAt kInt vBool z.1.1 z.2.1 * (FAt TF TQ z.1.2.1 x.fl * Row 9 1 z.1.2.2.1 x.units.length (strs x.units))))
section
variable {w0 w : World} {R : HP} {e : Nat} {x : En}
theorem St.e_open (h : St w0 w (EnAt e x * R)) : ∃ rm fp uv ov l, (∀ t, bOf l t = x.runs t) ∧ St w0 w (blk e (.cells (x.cells rm fp uv ov) TEn (0, 0)) * (LAt TFx 11 Fx.cells ov x.out * (MAt kInt vBool rm l * (FAt TF TQ fp x.fl * (Row 9 1 uv x.units.length (strs x.units) * R))))) := by
  obtain ⟨⟨⟨rm, fp, uv, ov⟩, l, hl⟩, h⟩ := h.ex
  exact ⟨rm, fp, uv, ov, l, hl, h.eq (by simp only [star_assoc])⟩
theorem St.e_shut {rm fp : Nat} {uv ov : Value} {l : BM} {c : Array Value} {out : List Fx} {fl : Fl} {n : Nat} {us : List Value} (h : St w0 w (blk e (.cells c TEn (0, 0)) * (LAt TFx 11 Fx.cells ov out * (MAt kInt vBool rm l * (FAt TF TQ fp fl * (Row 9 1 uv n us * R))))))
    (hc : c = x.cells rm fp uv ov) (ho : out = x.out) (hl : ∀ t, bOf l t = x.runs t) (hf : fl = x.fl) (hn : n = x.units.length) (hu : us = strs x.units) : St w0 w (EnAt e x * R) := by
  subst hc ho hf hn hu
  exact St.mk_ex ((rm, fp, uv, ov), ⟨l, hl⟩) (h.eq (by simp only [star_assoc]))
end
end Go.Proofs.YtnnahljdhdippaaGreatDoor
