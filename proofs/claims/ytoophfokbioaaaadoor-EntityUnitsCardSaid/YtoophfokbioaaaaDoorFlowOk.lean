/- The flow, further: what is set, what comes, what begins anew. The flow's View. What the flow's calls keep. -/
import Derived.Test.YtoophfokbioaaaaDoorFlow
namespace Go.Proofs.YtoophfokbioaaaaDoor
open Go.RowKit
set_option maxRecDepth 100000

def Fl.back (s : Fl) : Fl := { s with vs := s.va, q := (s.q.back 0).1 }

theorem f_back (f : Nat) (s : Fl) (w0 w : World) (R : HP) (h : St w0 w (FAt TF TQ f s * R)) :
    Calls Tryd.prog 65 #[ptr f] w fun e w' => e = .returned (.tuple #[]) ∧ St w0 w' (FAt TF TQ f s.back * R) := by
  obtain ⟨qp, h1⟩ := h.f_open
  have hq := h1.eq (star_left_comm _ _ _)
  obtain ⟨vs, va, vr, peer, own, refused, k, q⟩ := s
  have c := h1.cell
  have f := h1.free
  simp only [] at *
  go_enter Tryd.func65, Tryd.ntmps65
  go_wp2_with fail
  refine (q_back qp q 0 w0 _ _ hq).mono ?_
  rintro e w1 ⟨rfl, h2⟩
  have h3 := h2.eq (star_left_comm _ _ _)
  have c3 := h3.cell
  have f3 := h3.free
  go_wp2
  go_end0
  exact ⟨rfl, (h3.set 0 (.int .i64 va)).f_shut (by simp [Fl.cells, Fl.back]) rfl⟩

def Fl.come (s : Fl) (ns : Int) : Fl × Int :=
  if s.own = true then (s, 3) else if ns % 128 = s.vr then ({ s with vr := ((ns + 1) % 128).toNat, refused := false }, 0) else if s.refused = true then (s, 2) else ({ s with refused := true }, 1)

theorem f_come (f : Nat) (s : Fl) (ns : Int) (w0 w : World) (R : HP) (h : St w0 w (FAt TF TQ f s * R)) :
    Calls Tryd.prog 61 #[ptr f, .int .i64 ns] w fun e w' => e = .returned (.int .i64 (s.come ns).2) ∧ St w0 w' (FAt TF TQ f (s.come ns).1 * R) := by
  obtain ⟨qp, h1⟩ := h.f_open
  obtain ⟨vs, va, vr, peer, own, refused, k, q⟩ := s
  have c := h1.cell
  have f := h1.free
  unfold Fl.come
  simp only [] at *
  have n1 := Int.emod_nonneg (ns + 1) (show (128 : Int) ≠ 0 by decide)
  cases own with
  | true =>
    rw [if_pos rfl]
    go_enter Tryd.func61, Tryd.ntmps61
    go_wp2
    go_ret
    exact ⟨rfl, h⟩
  | false =>
  rw [if_neg (by simp)]
  by_cases b : ns % 128 = vr
  · rw [if_pos b]
    have hb : ((ns % 128) == (vr : Int)) = true := by simpa using b
    have Hb := Lib.hid b
    have e1 : (ns % 128 + 1) % 128 = (ns + 1) % 128 := by omega
    clear b
    go_enter Tryd.func61, Tryd.ntmps61
    go_wp2_with fail
    go_quiet ((go_at_call 70; exact quiet_left (s_norm _ _)))
    go_wp2_with fail
    refine (s_add _ _ _).mono ?_
    rintro e w1 ⟨rfl, rfl⟩
    go_wp2
    go_ret
    refine ⟨rfl, St.f_shut (s := { vs := vs, va := va, vr := ((ns + 1) % 128).toNat, peer := peer, own := false, refused := false, k := k, q := q }) (((h1.drewN _).set 2 (.int .i64 ((ns + 1) % 128))).set 5 (.bool false)) ?_ rfl⟩
    simp [Fl.cells]
    omega
  · rw [if_neg b]
    have hb : ((ns % 128) == (vr : Int)) = false := by simpa using b
    clear b
    cases refused with
    | true =>
      rw [if_pos rfl]
      go_enter Tryd.func61, Tryd.ntmps61
      go_wp2_with fail
      go_quiet ((go_at_call 70; exact quiet_left (s_norm _ _)))
      go_wp2
      go_ret
      exact ⟨rfl, h.drewN _⟩
    | false =>
      rw [if_neg (by simp)]
      go_enter Tryd.func61, Tryd.ntmps61
      go_wp2_with fail
      go_quiet ((go_at_call 70; exact quiet_left (s_norm _ _)))
      go_wp2
      go_ret
      refine ⟨rfl, St.f_shut (s := { vs := vs, va := va, vr := vr, peer := peer, own := false, refused := true, k := k, q := q }) ((h1.drewN _).set 5 (.bool true)) ?_ rfl⟩
      simp [Fl.cells]

theorem f_set_peer (f : Nat) (s : Fl) (b : Bool) (w0 w : World) (R : HP) (h : St w0 w (FAt TF TQ f s * R)) :
    Calls Tryd.prog 64 #[ptr f, .bool b] w fun e w' => e = .returned (.tuple #[]) ∧ St w0 w' (FAt TF TQ f { s with peer := b } * R) := by
  obtain ⟨qp, h1⟩ := h.f_open
  obtain ⟨vs, va, vr, peer, own, refused, k, q⟩ := s
  have c := h1.cell
  have f := h1.free
  go_enter Tryd.func64, Tryd.ntmps64
  go_wp2
  go_end0
  exact ⟨rfl, (h1.set 3 (.bool b)).f_shut (by simp [Fl.cells]) rfl⟩

theorem f_set_own (f : Nat) (s : Fl) (b : Bool) (w0 w : World) (R : HP) (h : St w0 w (FAt TF TQ f s * R)) :
    Calls Tryd.prog 43 #[ptr f, .bool b] w fun e w' => e = .returned (.bool (s.own != b)) ∧ St w0 w' (FAt TF TQ f { s with own := b } * R) := by
  obtain ⟨qp, h1⟩ := h.f_open
  obtain ⟨vs, va, vr, peer, own, refused, k, q⟩ := s
  have c := h1.cell
  have f := h1.free
  cases own <;> cases b
  all_goals
    go_enter Tryd.func43, Tryd.ntmps43
    go_wp2
    go_ret
    refine ⟨rfl, ?_⟩
    first | exact h | exact (h1.set 4 (.bool true)).f_shut (by simp [Fl.cells]) rfl | exact (h1.set 4 (.bool false)).f_shut (by simp [Fl.cells]) rfl

def Fl.reset (s : Fl) : Fl := { s with vs := 0, va := 0, vr := 0, peer := false, own := false, refused := false, q := (s.q.back 0).1 }

theorem f_reset (f : Nat) (s : Fl) (w0 w : World) (R : HP) (h : St w0 w (FAt TF TQ f s * R)) :
    Calls Tryd.prog 60 #[ptr f] w fun e w' => e = .returned (.tuple #[]) ∧ St w0 w' (FAt TF TQ f s.reset * R) := by
  obtain ⟨qp, h1⟩ := h.f_open
  have hq := h1.eq (star_left_comm _ _ _)
  obtain ⟨vs, va, vr, peer, own, refused, k, q⟩ := s
  have c := h1.cell
  have f := h1.free
  simp only [] at *
  go_enter Tryd.func60, Tryd.ntmps60
  go_wp2_with fail
  refine (q_back qp q 0 w0 _ _ hq).mono ?_
  rintro e w1 ⟨rfl, h2⟩
  have h3 := h2.eq (star_left_comm _ _ _)
  have c3 := h3.cell
  have f3 := h3.free
  go_wp2
  go_end0
  refine ⟨rfl, ?_⟩
  have h4 := (((((h3.set 0 (.int .i64 0)).set 1 (.int .i64 0)).set 2 (.int .i64 0)).set 3 (.bool false)).set 4 (.bool false)).set 5 (.bool false)
  exact h4.f_shut (by simp [Fl.cells, Fl.reset]) rfl

def Fl.clear (s : Fl) : Fl := { s with vs := s.va, q := ⟨s.q.most, [], 0⟩ }

theorem f_clear (f : Nat) (s : Fl) (w0 w : World) (R : HP) (h : St w0 w (FAt TF TQ f s * R)) (ok : s.Ok) :
    Calls Tryd.prog 35 #[ptr f] w fun e w' => e = .returned (.int .i64 s.q.l.length) ∧ St w0 w' (FAt TF TQ f s.clear * R) := by
  obtain ⟨qp, h1⟩ := h.f_open
  obtain ⟨vs, va, vr, peer, own, refused, k, q⟩ := s
  have c := h1.cell
  have f := h1.free
  have h2 := h1.set 0 (.int .i64 va)
  have c2 := h2.cell
  have okq := ok.q
  simp only [] at *
  go_enter Tryd.func35, Tryd.ntmps35
  go_wp2_with fail
  refine (q_clear qp q w0 _ _ (h2.eq (star_left_comm _ _ _)) okq).mono ?_
  rintro e w1 ⟨rfl, h3⟩
  go_wp2
  go_ret
  exact ⟨rfl, (h3.eq (star_left_comm _ _ _)).f_shut (by simp [Fl.cells, Fl.clear]) rfl⟩

end Go.Proofs.YtoophfokbioaaaaDoor

namespace Go.Proofs.YtoophfokbioaaaaDoor
open Go.RowKit
set_option maxRecDepth 100000

/-- What View answers. -/
def Fl.view (s : Fl) : Array Value := #[.int .i64 s.vs, .int .i64 s.va, .int .i64 s.vr, .bool s.peer, .bool s.own, .bool s.refused, .int .i64 s.q.sent, .int .i64 ((s.q.l.length : Int) - s.q.sent)]

set_option maxHeartbeats 400000 in
theorem f_view (f : Nat) (s : Fl) (w0 w : World) (R : HP) (h : St w0 w (FAt TF TQ f s * R)) (ok : s.Ok) :
    Calls Tryd.prog 21 #[ptr f] w fun e w' => e = .returned (.agg s.view) ∧ St w0 w' (FAt TF TQ f s * R) := by
  obtain ⟨qp, h1⟩ := h.f_open
  obtain ⟨vs, va, vr, peer, own, refused, k, q⟩ := s
  have c := h1.cell
  have f := h1.free
  have okq := ok.q
  simp only [] at *
  have h2 := (h1.alloc (.cells #[.int .i64 0, .int .i64 0, .int .i64 0, .bool false, .bool false, .bool false, .int .i64 0, .int .i64 0] 34)).alloc (.cells #[.int .i64 vs, .int .i64 va, .int .i64 vr, .bool peer, .bool own, .bool refused] 79)
  have hq := h2.eq (show _ = QAt TQ qp q * _ from star_4 _ _ _ _ _)
  have lt := h1.lt
  go_enter Tryd.func21, Tryd.ntmps21
  go_upto_region 4 with fail
  generalize hw2 : (w.alloc (.cells #[.int .i64 0, .int .i64 0, .int .i64 0, .bool false, .bool false, .bool false, .int .i64 0, .int .i64 0] 34)).alloc (.cells #[.int .i64 vs, .int .i64 va, .int .i64 vr, .bool peer, .bool own, .bool refused] 79) = w2 at *
  have c2 := h2.cell
  have c3 := (h2.eq (star_left_comm _ _ _)).cell
  have f3 := (h2.eq (star_left_comm _ _ _)).free
  have c4 := (h2.eq (star_3 _ _ _ _)).cell
  have f4 := (h2.eq (star_3 _ _ _ _)).free
  simp only [World.size_alloc] at *
  clear hw2 c f
  generalize hg : w.heap.size = g at *
  have k0 : w2.cell? ⟨g + 1, 0, none⟩ = some (.int .i64 vs) := c2 0
  have k1 : w2.cell? ⟨g + 1, 1, none⟩ = some (.int .i64 va) := c2 1
  have k2 : w2.cell? ⟨g + 1, 2, none⟩ = some (.int .i64 vr) := c2 2
  have k3 : w2.cell? ⟨g + 1, 3, none⟩ = some (.bool peer) := c2 3
  have k4 : w2.cell? ⟨g + 1, 4, none⟩ = some (.bool own) := c2 4
  have k5 : w2.cell? ⟨g + 1, 5, none⟩ = some (.bool refused) := c2 5
  have k6 : w2.cell? ⟨f, 7, none⟩ = some (ptr qp) := c4 7
  clear hg c2 c4 f4
  have hne : f ≠ g := by omega
  have hne2 : g ≠ f := by omega
  go_region_held3 (fun w' => w'.cell? ⟨g + 1, 0, none⟩ = some (.int .i64 vs) ∧ w'.cell? ⟨g + 1, 1, none⟩ = some (.int .i64 va) ∧ w'.cell? ⟨g + 1, 2, none⟩ = some (.int .i64 vr) ∧ w'.cell? ⟨g + 1, 3, none⟩ = some (.bool peer) ∧ w'.cell? ⟨g + 1, 4, none⟩ = some (.bool own) ∧ w'.cell? ⟨g + 1, 5, none⟩ = some (.bool refused) ∧ w'.cell? ⟨f, 7, none⟩ = some (ptr qp)) (first | (with_reducible exact ⟨k0, k1, k2, k3, k4, k5, k6⟩) | (simp only [World.cell?_drew]; with_reducible exact ⟨k0, k1, k2, k3, k4, k5, k6⟩) | (with_reducible exact ⟨m0, m1, m2, m3, m4, m5, m6⟩) | go_keep) (first | (go_at_call 45; refine (q_sent qp q w0 _ _ hq.drew).mono ?_; rintro e w5 ⟨rfl, rfl⟩) | (go_at_call 46; refine (q_left qp q w0 _ _ hq.drew okq).mono ?_; rintro e w6 ⟨rfl, n, hw6⟩; have h6 : St w0 w6 _ := hw6 ▸ h2.drew.drewN n; clear hw6; have m0 := (h6.cell 0).trans (show _ = some (Value.int .i64 vs) from rfl); have m1 := (h6.cell 1).trans (show _ = some (Value.int .i64 va) from rfl); have m2 := (h6.cell 2).trans (show _ = some (Value.int .i64 vr) from rfl); have m3 := (h6.cell 3).trans (show _ = some (Value.bool peer) from rfl); have m4 := (h6.cell 4).trans (show _ = some (Value.bool own) from rfl); have m5 := (h6.cell 5).trans (show _ = some (Value.bool refused) from rfl); have m6 := ((h6.eq (star_3 _ _ _ _)).cell 7).trans (show _ = some (ptr qp) from rfl); have c6 := (h6.eq (star_left_comm _ _ _)).cell; have f6 := (h6.eq (star_left_comm _ _ _)).free))
  go_wp2
  have h9 := (((((((((h6.eq (star_left_comm _ _ _)).set 0 (.int .i64 vs)).set 1 (.int .i64 va)).set 2 (.int .i64 vr)).set 3 (.bool peer)).set 4 (.bool own)).set 5 (.bool refused)).set 6 (.int .i64 q.sent)).set 7 (.int .i64 ((q.l.length : Int) - q.sent)))
  generalize ((((((((w6.setCell ⟨g, 0, none⟩ (.int .i64 vs)).setCell ⟨g, 1, none⟩ (.int .i64 va)).setCell ⟨g, 2, none⟩ (.int .i64 vr)).setCell ⟨g, 3, none⟩ (.bool peer)).setCell ⟨g, 4, none⟩ (.bool own)).setCell ⟨g, 5, none⟩ (.bool refused)).setCell ⟨g, 6, none⟩ (.int .i64 q.sent)).setCell ⟨g, 7, none⟩ (.int .i64 ((q.l.length : Int) - q.sent))) = w9 at *
  have c9 := h9.cell
  refine bodyPost_ret (v := .agg (Fl.view ⟨vs, va, vr, peer, own, refused, k, q⟩)) (by simp [results, Tryd.results21, go_sem, Fl.view, c9]) rfl ⟨rfl, ?_⟩
  exact h9.drop.drop.f_shut rfl rfl
end Go.Proofs.YtoophfokbioaaaaDoor

namespace Go.Proofs.YtoophfokbioaaaaDoor
open Go.RowKit
set_option maxRecDepth 100000

theorem i64_and255 (n : Int) : bits .and .i64 n 255 = n % 256 := by
  have h255 : (BitVec.ofInt 64 255).toNat = 2 ^ 8 - 1 := by decide
  have key : (BitVec.ofInt 64 n &&& BitVec.ofInt 64 255).toNat = (n % ((2 ^ 64 : Nat) : Int)).toNat % 2 ^ 8 := by
    rw [BitVec.toNat_and, BitVec.toNat_ofInt, h255, Nat.and_two_pow_sub_one_eq_mod]
  show IntKind.i64.wrap ((BitVec.ofInt 64 n &&& BitVec.ofInt 64 255).toNat : Nat) = n % 256
  rw [key, IntKind.wrap_i64]
  omega

theorem push_sent (q : Q) (s : ByteArray) : (q.push s).1.sent = q.sent := by unfold Q.push; split <;> (try split) <;> rfl
theorem back0_sent (q : Q) : (q.back 0).1 = { q with sent := 0 } := by unfold Q.back; rw [if_neg (by omega)]; rfl

theorem Fl.Ok.new (k : Int) (n : Int) : Fl.Ok ⟨0, 0, 0, false, false, false, k, ⟨(max 1 (min n 256)).toNat, [], 0⟩⟩ := ⟨by simp, by simp, by simp, Q.Ok.new n, by simp, by simp only []; omega⟩
theorem Fl.Ok.push {s : Fl} (ok : s.Ok) (d : ByteArray) : Fl.Ok { s with q := (s.q.push d).1 } := ⟨ok.s1, ok.a1, ok.r1, ok.q.push d, by simp only [push_sent]; exact ok.w, by simp only [push_sent]; exact ok.n⟩
theorem Fl.Ok.take {s : Fl} (ok : s.Ok) : s.take.1.Ok := by
  unfold Fl.take
  split
  · exact ok
  · rename_i h
    simp only [not_or] at h
    have hw := ok.w
    have h3 := h.2.2
    unfold roomOf at h3
    have hs : s.q.take.1.sent = s.q.sent + 1 := by unfold Q.take; rw [if_pos (by omega)]
    have := ok.s1
    have := ok.a1
    refine ⟨by simp only []; omega, ok.a1, ok.r1, ok.q.take, ?_, ?_⟩
    · simp only [hs]
      omega
    · simp only [hs]
      omega
theorem Fl.Ok.ack {s : Fl} (ok : s.Ok) (nr : Int) : (s.ack nr).1.Ok := by
  unfold Fl.ack
  split
  · rename_i h
    have hw := ok.w
    have := ok.s1
    have := ok.a1
    have hn := ok.n
    have hs : (s.q.done ((nr - s.va) % 128)).1.sent = s.q.sent - ((nr - s.va) % 128).toNat := by unfold Q.done; rw [if_neg (by omega)]
    refine ⟨ok.s1, by simp only []; omega, ok.r1, ok.q.done _, ?_, ?_⟩
    · simp only [hs]
      omega
    · simp only [hs]
      omega
  · exact ok
theorem Fl.Ok.back {s : Fl} (ok : s.Ok) : s.back.Ok := ⟨ok.a1, ok.a1, ok.r1, ok.q.back 0, by simp only [Fl.back, back0_sent]; simp, by simp only [Fl.back, back0_sent]; omega⟩
theorem Fl.Ok.come {s : Fl} (ok : s.Ok) (ns : Int) : (s.come ns).1.Ok := by
  unfold Fl.come
  split
  · exact ok
  · split
    · exact ⟨ok.s1, ok.a1, by simp only []; omega, ok.q, ok.w, ok.n⟩
    · split
      · exact ok
      · exact ⟨ok.s1, ok.a1, ok.r1, ok.q, ok.w, ok.n⟩
theorem Fl.Ok.peer {s : Fl} (ok : s.Ok) (b : Bool) : Fl.Ok { s with peer := b } := ⟨ok.s1, ok.a1, ok.r1, ok.q, ok.w, ok.n⟩
theorem Fl.Ok.own {s : Fl} (ok : s.Ok) (b : Bool) : Fl.Ok { s with own := b } := ⟨ok.s1, ok.a1, ok.r1, ok.q, ok.w, ok.n⟩
theorem Fl.Ok.reset {s : Fl} (ok : s.Ok) : s.reset.Ok := ⟨by simp [Fl.reset], by simp [Fl.reset], by simp [Fl.reset], ok.q.back 0, by simp only [Fl.reset, back0_sent]; simp, by simp only [Fl.reset, back0_sent]; omega⟩
theorem Fl.Ok.clear {s : Fl} (ok : s.Ok) : s.clear.Ok := ⟨ok.a1, ok.a1, ok.r1, ok.q.clear, by simp [Fl.clear], by simp only [Fl.clear]; omega⟩

/-- What never changes. -/
structure Fl.Like (s t : Fl) : Prop where
  k : t.k = s.k
  most : t.q.most = s.q.most
theorem Fl.Like.refl (s : Fl) : s.Like s := ⟨rfl, rfl⟩
theorem Fl.Like.trans {a b c : Fl} (h : a.Like b) (g : b.Like c) : a.Like c := ⟨g.k.trans h.k, g.most.trans h.most⟩
theorem push_most (q : Q) (d : ByteArray) : (q.push d).1.most = q.most := by unfold Q.push; split <;> (try split) <;> rfl
theorem take_most (q : Q) : q.take.1.most = q.most := by unfold Q.take; split <;> rfl
theorem done_most (q : Q) (n : Int) : (q.done n).1.most = q.most := by unfold Q.done; split <;> rfl
theorem back_most (q : Q) (n : Int) : (q.back n).1.most = q.most := by unfold Q.back; split <;> rfl
theorem like_push (s : Fl) (d : ByteArray) : s.Like { s with q := (s.q.push d).1 } := ⟨rfl, push_most _ _⟩
theorem like_take (s : Fl) : s.Like s.take.1 := by unfold Fl.take; split; exact .refl s; exact ⟨rfl, take_most _⟩
theorem like_ack (s : Fl) (nr : Int) : s.Like (s.ack nr).1 := by unfold Fl.ack; split; exact ⟨rfl, done_most _ _⟩; exact .refl s
theorem like_back (s : Fl) : s.Like s.back := ⟨rfl, back_most _ _⟩
theorem like_come (s : Fl) (ns : Int) : s.Like (s.come ns).1 := by unfold Fl.come; split; exact .refl s; split; exact ⟨rfl, rfl⟩; split; exact .refl s; exact ⟨rfl, rfl⟩
theorem like_reset (s : Fl) : s.Like s.reset := ⟨rfl, back_most _ _⟩
theorem like_clear (s : Fl) : s.Like s.clear := ⟨rfl, rfl⟩
end Go.Proofs.YtoophfokbioaaaaDoor
