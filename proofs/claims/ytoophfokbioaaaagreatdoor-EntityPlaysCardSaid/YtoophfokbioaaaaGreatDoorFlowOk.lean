/- What the flow's calls keep. -/
import Derived.Test.YtoophfokbioaaaaGreatDoorFlowView
namespace Go.Proofs.YtoophfokbioaaaaGreatDoor
open Go.RowKit
set_option maxRecDepth 100000

theorem i64_and255 (n : Int) : bits .and .i64 n 255 = n % 256 := by
  have h255 : (BitVec.ofInt 64 255).toNat = 2 ^ 8 - 1 := by decide
  have key : (BitVec.ofInt 64 n &&& BitVec.ofInt 64 255).toNat = (n % ((2 ^ 64 : Nat) : Int)).toNat % 2 ^ 8 := by
    rw [BitVec.toNat_and, BitVec.toNat_ofInt, h255, Nat.and_two_pow_sub_one_eq_mod]
  show IntKind.i64.wrap ((BitVec.ofInt 64 n &&& BitVec.ofInt 64 255).toNat : Nat) = n % 256
  rw [key, IntKind.wrap_i64]
  omega

theorem push_sent (q : Q) (s : ByteArray) : (q.push s).1.sent = q.sent := by unfold Q.push; split <;> (try split) <;> rfl
theorem back0_sent (q : Q) : (q.back 0).1 = { q with sent := 0 } := by unfold Q.back; rw [if_neg (by omega)]; rfl

theorem Fl.Ok.new (k : Int) (n : Int) : Fl.Ok ⟨0, 0, 0, false, false, false, k, ⟨(max 1 (min n 256)).toNat, [], 0⟩⟩ := ⟨by simp, by simp, by simp, Q.Ok.new n, by simp, by simp only []; omega⟩
theorem Fl.Ok.push {s : Fl} (ok : s.Ok) (d : ByteArray) : Fl.Ok { s with q := (s.q.push d).1 } := ⟨ok.s1, ok.a1, ok.r1, ok.q.push d, by simp only [push_sent]; exact ok.w, by simp only [push_sent]; exact ok.n⟩
theorem Fl.Ok.take {s : Fl} (ok : s.Ok) : s.take.1.Ok := by
  unfold Fl.take
  split
  · exact ok
  · rename_i h
    simp only [not_or] at h
    have hw := ok.w
    have h3 := h.2.2
    unfold roomOf at h3
    have hs : s.q.take.1.sent = s.q.sent + 1 := by unfold Q.take; rw [if_pos (by omega)]
    have := ok.s1
    have := ok.a1
    refine ⟨by simp only []; omega, ok.a1, ok.r1, ok.q.take, ?_, ?_⟩
    · simp only [hs]
      omega
    · simp only [hs]
      omega
theorem Fl.Ok.ack {s : Fl} (ok : s.Ok) (nr : Int) : (s.ack nr).1.Ok := by
  unfold Fl.ack
  split
  · rename_i h
    have hw := ok.w
    have := ok.s1
    have := ok.a1
    have hn := ok.n
    have hs : (s.q.done ((nr - s.va) % 128)).1.sent = s.q.sent - ((nr - s.va) % 128).toNat := by unfold Q.done; rw [if_neg (by omega)]
    refine ⟨ok.s1, by simp only []; omega, ok.r1, ok.q.done _, ?_, ?_⟩
    · simp only [hs]
      omega
    · simp only [hs]
      omega
  · exact ok
theorem Fl.Ok.back {s : Fl} (ok : s.Ok) : s.back.Ok := ⟨ok.a1, ok.a1, ok.r1, ok.q.back 0, by simp only [Fl.back, back0_sent]; simp, by simp only [Fl.back, back0_sent]; omega⟩
theorem Fl.Ok.come {s : Fl} (ok : s.Ok) (ns : Int) : (s.come ns).1.Ok := by
  unfold Fl.come
  split
  · exact ok
  · split
    · exact ⟨ok.s1, ok.a1, by simp only []; omega, ok.q, ok.w, ok.n⟩
    · split
      · exact ok
      · exact ⟨ok.s1, ok.a1, ok.r1, ok.q, ok.w, ok.n⟩
theorem Fl.Ok.peer {s : Fl} (ok : s.Ok) (b : Bool) : Fl.Ok { s with peer := b } := ⟨ok.s1, ok.a1, ok.r1, ok.q, ok.w, ok.n⟩
theorem Fl.Ok.own {s : Fl} (ok : s.Ok) (b : Bool) : Fl.Ok { s with own := b } := ⟨ok.s1, ok.a1, ok.r1, ok.q, ok.w, ok.n⟩
theorem Fl.Ok.reset {s : Fl} (ok : s.Ok) : s.reset.Ok := ⟨by simp [Fl.reset], by simp [Fl.reset], by simp [Fl.reset], ok.q.back 0, by simp only [Fl.reset, back0_sent]; simp, by simp only [Fl.reset, back0_sent]; omega⟩
theorem Fl.Ok.clear {s : Fl} (ok : s.Ok) : s.clear.Ok := ⟨ok.a1, ok.a1, ok.r1, ok.q.clear, by simp [Fl.clear], by simp only [Fl.clear]; omega⟩

/-- What never changes. -/
structure Fl.Like (s t : Fl) : Prop where
  k : t.k = s.k
  most : t.q.most = s.q.most
theorem Fl.Like.refl (s : Fl) : s.Like s := ⟨rfl, rfl⟩
theorem Fl.Like.trans {a b c : Fl} (h : a.Like b) (g : b.Like c) : a.Like c := ⟨g.k.trans h.k, g.most.trans h.most⟩
theorem push_most (q : Q) (d : ByteArray) : (q.push d).1.most = q.most := by unfold Q.push; split <;> (try split) <;> rfl
theorem take_most (q : Q) : q.take.1.most = q.most := by unfold Q.take; split <;> rfl
theorem done_most (q : Q) (n : Int) : (q.done n).1.most = q.most := by unfold Q.done; split <;> rfl
theorem back_most (q : Q) (n : Int) : (q.back n).1.most = q.most := by unfold Q.back; split <;> rfl
theorem like_push (s : Fl) (d : ByteArray) : s.Like { s with q := (s.q.push d).1 } := ⟨rfl, push_most _ _⟩
theorem like_take (s : Fl) : s.Like s.take.1 := by unfold Fl.take; split; exact .refl s; exact ⟨rfl, take_most _⟩
theorem like_ack (s : Fl) (nr : Int) : s.Like (s.ack nr).1 := by unfold Fl.ack; split; exact ⟨rfl, done_most _ _⟩; exact .refl s
theorem like_back (s : Fl) : s.Like s.back := ⟨rfl, back_most _ _⟩
theorem like_come (s : Fl) (ns : Int) : s.Like (s.come ns).1 := by unfold Fl.come; split; exact .refl s; split; exact ⟨rfl, rfl⟩; split; exact .refl s; exact ⟨rfl, rfl⟩
theorem like_reset (s : Fl) : s.Like s.reset := ⟨rfl, back_most _ _⟩
theorem like_clear (s : Fl) : s.Like s.clear := ⟨rfl, rfl⟩
end Go.Proofs.YtoophfokbioaaaaGreatDoor
