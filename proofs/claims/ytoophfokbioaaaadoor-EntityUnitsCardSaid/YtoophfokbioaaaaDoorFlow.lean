/- The flow: what each of its calls does to it. -/
import Derived.Test.YtoophfokbioaaaaDoorQueueRef
import Derived.Test.YtoophfokbioaaaaDoorSeq
namespace Go.Proofs.YtoophfokbioaaaaDoor
open Go.RowKit
set_option maxRecDepth 100000

structure Fl where
  vs : Nat
  va : Nat
  vr : Nat
  peer : Bool
  own : Bool
  refused : Bool
  k : Int
  q : Q

structure Fl.Ok (s : Fl) : Prop where
  s1 : s.vs < 128
  a1 : s.va < 128
  r1 : s.vr < 128
  q : s.q.Ok
  w : (s.q.sent : Int) = ((s.vs : Int) - s.va) % 128
  n : (s.q.sent : Int) ≤ max 1 (min s.k 127)

abbrev Fl.cells (s : Fl) (qp : Nat) : Array Value := #[.int .i64 s.vs, .int .i64 s.va, .int .i64 s.vr, .bool s.peer, .bool s.own, .bool s.refused, .int .i64 s.k, ptr qp]

def FAt (T U : TypeId) (f : Nat) (s : Fl) : HP := hex fun qp : Nat => blk f (.cells (s.cells qp) T (0, 0)) * QAt U qp s.q

theorem St.f_open {w0 w : World} {R : HP} {T U : TypeId} {f : Nat} {s : Fl} (h : St w0 w (FAt T U f s * R)) :
    ∃ qp, St w0 w (blk f (.cells (s.cells qp) T (0, 0)) * (QAt U qp s.q * R)) := by
  obtain ⟨qp, h⟩ := h.ex
  exact ⟨qp, h.eq (star_assoc _ _ _)⟩

theorem St.f_shut {w0 w : World} {R : HP} {T U : TypeId} {f qp : Nat} {s : Fl} {c : Array Value} {q : Q} (h : St w0 w (blk f (.cells c T (0, 0)) * (QAt U qp q * R))) (hc : c = s.cells qp) (hq : q = s.q) : St w0 w (FAt T U f s * R) := by
  subst hc hq
  exact St.mk_ex qp (h.eq (star_assoc _ _ _).symm)

abbrev TF : TypeId := 81
abbrev TQ : TypeId := 94
theorem quiet_left {P : Program} {f : FuncId} {args : Array Value} {w : World} {n : Nat} {v : Value}
    (h : Calls P f args (w.drewN n) fun e w' => e = .returned v ∧ w.drewN n = w') : Calls P f args (w.drewN n) fun e w'' => e = .returned v ∧ ∃ m, w'' = w.drewN m :=
  h.mono fun _ _ ⟨he, hm⟩ => ⟨he, n, hm.symm⟩

/-! New -/
theorem f_new (k n : Int) (w0 w : World) (R : HP) (h : St w0 w R) :
    Calls Tryd.prog 14 #[.int .i64 k, .int .i64 n] w fun e w' => ∃ f, e = .returned (ptr f) ∧ St w0 w' (FAt TF TQ f ⟨0, 0, 0, false, false, false, k, ⟨(max 1 (min n 256)).toNat, [], 0⟩⟩ * R) := by
  go_enter Tryd.func14, Tryd.ntmps14
  go_wp2_with fail
  refine (q_new n w0 w R h).mono ?_
  rintro e w1 ⟨p, rfl, h1⟩
  go_wp2
  go_ret
  exact ⟨_, rfl, (h1.alloc (.cells (Fl.cells ⟨0, 0, 0, false, false, false, k, ⟨(max 1 (min n 256)).toNat, [], 0⟩⟩ p) TF)).f_shut rfl rfl⟩

/-! Push -/
theorem f_push (f : Nat) (s : Fl) (d : ByteArray) (w0 w : World) (R : HP) (h : St w0 w (FAt TF TQ f s * R)) (ok : s.Ok) :
    Calls Tryd.prog 40 #[ptr f, .string d] w fun e w' => e = .returned (.int .i64 (s.q.push d).2) ∧ St w0 w' (FAt TF TQ f { s with q := (s.q.push d).1 } * R) := by
  obtain ⟨qp, h1⟩ := h.f_open
  have c := h1.cell
  have f := h1.free
  go_enter Tryd.func40, Tryd.ntmps40
  go_wp2_with fail
  refine (q_push qp s.q d w0 w _ (h1.eq (star_left_comm _ _ _)) ok.q).mono ?_
  rintro e w1 ⟨rfl, h2⟩
  go_wp2
  go_ret
  exact ⟨rfl, (h2.eq (star_left_comm _ _ _)).f_shut (s := { s with q := (s.q.push d).1 }) rfl rfl⟩

/-! Take -/
def Fl.take (s : Fl) : Fl × Nat × ByteArray × Bool :=
  if s.peer = true ∨ s.q.l.length ≤ s.q.sent ∨ roomOf s.va s.vs s.k = 0 then (s, 0, ⟨#[]⟩, false)
  else ({ s with vs := (s.vs + 1) % 128, q := s.q.take.1 }, s.vs, s.q.take.2.1, true)

set_option maxHeartbeats 1600000 in
theorem f_take (f : Nat) (s : Fl) (w0 w : World) (R : HP) (h : St w0 w (FAt TF TQ f s * R)) (ok : s.Ok) :
    Calls Tryd.prog 58 #[ptr f] w fun e w' => e = .returned (.tuple #[.int .i64 s.take.2.1, .string s.take.2.2.1, .bool s.take.2.2.2]) ∧ St w0 w' (FAt TF TQ f s.take.1 * R) := by
  obtain ⟨qp, h1⟩ := h.f_open
  have hq := h1.eq (star_left_comm _ _ _)
  unfold Fl.take
  have o1 := ok.s1
  have sl := ok.q.sl
  obtain ⟨vs, va, vr, peer, own, refused, k, q⟩ := s
  have c := h1.cell
  have f := h1.free
  simp only [] at *
  cases peer with
  | true =>
    rw [if_pos (.inl rfl)]
    go_enter Tryd.func58, Tryd.ntmps58
    go_wp2
    go_quiet (fail)
    go_wp2
    go_ret3
    exact ⟨rfl, h.drewN _⟩
  | false =>
  by_cases b1 : q.l.length ≤ q.sent
  · rw [if_pos (.inr (.inl b1))]
    have hb : ((q.l.length : Int) - (q.sent : Int) == 0) = true := by simp; omega
    go_enter Tryd.func58, Tryd.ntmps58
    go_wp2
    go_quiet ((go_at_call 46; exact Calls.quiet_of (q_left qp q w0 _ _ (hq.drewN _) ok.q)))
    go_wp2
    go_ret3
    exact ⟨rfl, h.drewN _⟩
  have hb : ((q.l.length : Int) - (q.sent : Int) == 0) = false := by simp; omega
  by_cases b2 : roomOf va vs k = 0
  · rw [if_pos (.inr (.inr b2))]
    have hr : (roomOf va vs k == 0) = true := by simpa using b2
    clear b2
    go_enter Tryd.func58, Tryd.ntmps58
    go_wp2
    go_quiet ((first | (go_at_call 46; exact Calls.quiet_of (q_left qp q w0 _ _ (hq.drewN _) ok.q)) | (go_at_call 66; exact quiet_left (s_room _ _ _ _))))
    go_wp2
    go_ret3
    exact ⟨rfl, h.drewN _⟩
  · rw [if_neg (by simp; omega)]
    have hr : (roomOf va vs k == 0) = false := by simpa using b2
    clear b2
    go_enter Tryd.func58, Tryd.ntmps58
    go_wp2
    go_quiet ((first | (go_at_call 46; exact Calls.quiet_of (q_left qp q w0 _ _ (hq.drewN _) ok.q)) | (go_at_call 66; exact quiet_left (s_room _ _ _ _))))
    go_wp2_with fail
    refine (q_take qp q w0 _ _ (hq.drewN _) ok.q).mono ?_
    rintro e w1 ⟨rfl, h2⟩
    have h3 := h2.eq (star_left_comm _ _ _)
    have c3 := h3.cell
    have f3 := h3.free
    go_wp2_with fail
    refine (s_add _ _ _).mono ?_
    rintro e w2 ⟨rfl, rfl⟩
    go_wp2
    go_ret3
    refine ⟨rfl, (h3.set 0 (.int .i64 (((vs : Int) + 1) % 128))).f_shut ?_ rfl⟩
    simp [Fl.cells]

/-! Ack -/
def Fl.ack (s : Fl) (nr : Int) : Fl × Int × Int :=
  if (nr - s.va) % 128 ≤ ((s.vs : Int) - s.va) % 128 then ({ s with va := (nr % 128).toNat, q := (s.q.done ((nr - s.va) % 128)).1 }, (nr - s.va) % 128, 0) else (s, 0, 2)

theorem f_ack (f : Nat) (s : Fl) (nr : Int) (w0 w : World) (R : HP) (h : St w0 w (FAt TF TQ f s * R)) (ok : s.Ok) :
    Calls Tryd.prog 62 #[ptr f, .int .i64 nr] w fun e w' => e = .returned (.tuple #[.int .i64 (s.ack nr).2.1, .int .i64 (s.ack nr).2.2]) ∧ St w0 w' (FAt TF TQ f (s.ack nr).1 * R) := by
  obtain ⟨qp, h1⟩ := h.f_open
  have hq := h1.eq (star_left_comm _ _ _)
  unfold Fl.ack
  obtain ⟨vs, va, vr, peer, own, refused, k, q⟩ := s
  have c := h1.cell
  have f := h1.free
  have okq := ok.q
  simp only [] at *
  have n1 := Int.emod_nonneg nr (show (128 : Int) ≠ 0 by decide)
  by_cases b : (nr - va) % 128 ≤ ((vs : Int) - va) % 128
  · rw [if_pos b]
    have hb : decide ((nr - va) % 128 ≤ ((vs : Int) - va) % 128) = true := by simpa using b
    clear b
    go_enter Tryd.func62, Tryd.ntmps62
    go_wp2
    go_quiet ((go_at_call 71; exact quiet_left (s_valid _ _ _ _)))
    go_wp2_with fail
    refine (s_sub _ _ _).mono ?_
    rintro e w1 ⟨rfl, rfl⟩
    go_wp2_with fail
    refine (q_done qp q _ w0 _ _ (hq.drewN _) okq).mono ?_
    rintro e w1 ⟨rfl, h2⟩
    have h3 := h2.eq (star_left_comm _ _ _)
    have c3 := h3.cell
    have f3 := h3.free
    go_wp2_with fail
    refine (s_norm _ _).mono ?_
    rintro e w2 ⟨rfl, rfl⟩
    go_wp2
    go_ret2
    refine ⟨rfl, (h3.set 1 (.int .i64 (nr % 128))).f_shut ?_ rfl⟩
    simp [Fl.cells]
    omega
  · rw [if_neg b]
    have hb : decide ((nr - va) % 128 ≤ ((vs : Int) - va) % 128) = false := by simpa using b
    clear b
    go_enter Tryd.func62, Tryd.ntmps62
    go_wp2
    go_quiet ((go_at_call 71; exact quiet_left (s_valid _ _ _ _)))
    go_wp2
    go_ret2
    exact ⟨rfl, h.drewN _⟩

end Go.Proofs.YtoophfokbioaaaaDoor
