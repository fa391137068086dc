/- The entity: what its steps leave as it was, and how many effects they tell: plain laws. -/
import Derived.Test.YtoophfokbioaaaaGreatDoorEnt
namespace Go.Proofs.YtoophfokbioaaaaGreatDoor
open Go.RowKit

section
variable (x : En)
theorem En.setT_out (t : Int) (b : Bool) : (x.setT t b).out = x.out := by unfold En.setT; split <;> rfl
theorem En.setT_fl (t : Int) (b : Bool) : (x.setT t b).fl = x.fl := by unfold En.setT; split <;> rfl
theorem En.setT_state (t : Int) (b : Bool) : (x.setT t b).state = x.state := by unfold En.setT; split <;> rfl
theorem En.setT_units (t : Int) (b : Bool) : (x.setT t b).units = x.units := by unfold En.setT; split <;> rfl
theorem En.setT_most (t : Int) (b : Bool) : (x.setT t b).most = x.most := by unfold En.setT; split <;> rfl
theorem En.setT_tries (t : Int) (b : Bool) : (x.setT t b).tries = x.tries := by unfold En.setT; split <;> rfl
theorem En.setT_tei (t : Int) (b : Bool) : (x.setT t b).tei = x.tei := by unfold En.setT; split <;> rfl
theorem En.setT_asked (t : Int) (b : Bool) : (x.setT t b).asked = x.asked := by unfold En.setT; split <;> rfl
theorem En.setT_cells (t : Int) (b : Bool) (rm fp : Nat) (uv ov : Value) : (x.setT t b).cells rm fp uv ov = x.cells rm fp uv ov := by unfold En.setT; split <;> rfl
theorem En.setT_runs {t : Int} (ht : t = 200 ∨ t = 203) (b : Bool) (u : Int) : (x.setT t b).runs u = if u = t then b else x.runs u := by
  unfold En.setT En.runs
  rcases ht with rfl | rfl
  · rw [if_pos rfl]
    by_cases h : u = 200
    · rw [if_pos h, if_pos h]
    · rw [if_neg h, if_neg h, if_neg h]
  · rw [if_neg (show ¬ (203 : Int) = 200 by decide)]
    by_cases h : u = 200
    · subst h; rw [if_pos rfl, if_neg (by decide), if_pos rfl]
    · rw [if_neg h, if_neg h]
      by_cases h2 : u = 203
      · rw [if_pos h2, if_pos h2]
      · rw [if_neg h2, if_neg h2, if_neg h2]
theorem En.tell_out (f : Fx) : (x.tell f).out = x.out ++ [f] := rfl
theorem En.sendD_len (k : Int) (c p : Bool) (n : Int) (i : ByteArray) : (x.sendD k c p n i).out.length = x.out.length + 1 := by simp [En.sendD, En.tell]
theorem En.send_len (k : Int) (c p : Bool) : (x.send k c p).out.length = x.out.length + 1 := x.sendD_len k c p 0 noStr
theorem En.told_len (k : Int) (d : ByteArray) : (x.told k d).out.length = x.out.length + 1 := by simp [En.told, En.tell]
theorem En.start_len (t : Int) : (x.start t).out.length = x.out.length + 1 := by simp [En.start, En.tell, setT_out]
theorem En.stop_len (t : Int) : (x.stop t).out.length ≤ x.out.length + 1 := by unfold En.stop; split <;> simp [En.tell, setT_out]
theorem En.superv_len (c p : Bool) : (x.superv c p).out.length = x.out.length + 1 := x.send_len _ c p
theorem En.start_fl (t : Int) : (x.start t).fl = x.fl := x.setT_fl t true
theorem En.stop_fl (t : Int) : (x.stop t).fl = x.fl := by unfold En.stop; split; exact x.setT_fl t false; rfl
theorem En.start_state (t : Int) : (x.start t).state = x.state := x.setT_state t true
theorem En.stop_state (t : Int) : (x.stop t).state = x.state := by unfold En.stop; split; exact x.setT_state t false; rfl
theorem En.start_units (t : Int) : (x.start t).units = x.units := x.setT_units t true
theorem En.stop_units (t : Int) : (x.stop t).units = x.units := by unfold En.stop; split; exact x.setT_units t false; rfl
theorem En.start_most (t : Int) : (x.start t).most = x.most := x.setT_most t true
theorem En.stop_most (t : Int) : (x.stop t).most = x.most := by unfold En.stop; split; exact x.setT_most t false; rfl
theorem En.start_tries (t : Int) : (x.start t).tries = x.tries := x.setT_tries t true
theorem En.stop_tries (t : Int) : (x.stop t).tries = x.tries := by unfold En.stop; split; exact x.setT_tries t false; rfl
theorem En.call_len : x.call.out.length ≤ x.out.length + 3 := by
  have h1 := En.stop_len ((x.setTries 0).send 4 true true) 203
  have h2 : ((x.setTries 0).send 4 true true).out.length = x.out.length + 1 := En.send_len (x.setTries 0) 4 true true
  have h3 := En.start_len (((x.setTries 0).send 4 true true).stop 203) 200
  show ((((x.setTries 0).send 4 true true).stop 203).start 200).out.length ≤ _
  omega
theorem En.call_fl : x.call.fl = x.fl := (En.start_fl _ _).trans (En.stop_fl _ _)
theorem En.anew_len (l : ByteArray) : (x.anew l).out.length ≤ x.out.length + 4 := by
  have h1 := En.call_len ((x.told 7 l).setAsked false)
  have h2 : ((x.told 7 l).setAsked false).out.length = x.out.length + 1 := x.told_len 7 l
  unfold En.anew
  omega
theorem En.take1_fl : x.take1.fl = x.fl.take.1 := by
  unfold En.take1
  simp only []
  split
  · rfl
  · exact (En.start_fl _ _).trans (En.stop_fl _ _)
theorem En.take1_state : x.take1.state = x.state := by
  unfold En.take1
  simp only []
  split
  · rfl
  · exact (En.start_state _ _).trans (En.stop_state _ _)
theorem En.take1_len : x.take1.out.length ≤ x.out.length + 3 := by
  have h1 : ((x.setFl x.fl.take.1).sendD 0 true false x.fl.take.2.1 x.fl.take.2.2.1).out.length = x.out.length + 1 := En.sendD_len (x.setFl x.fl.take.1) 0 true false x.fl.take.2.1 x.fl.take.2.2.1
  unfold En.take1
  simp only []
  split
  · omega
  · rw [En.start_len]
    have := En.stop_len ((x.setFl x.fl.take.1).sendD 0 true false x.fl.take.2.1 x.fl.take.2.2.1) 203
    omega
end
theorem goOnK_len : ∀ (n : Nat) (x : En), (En.goOnK n x).out.length ≤ x.out.length + 3 * n
  | 0, _ => Nat.le_refl _
  | n + 1, x => by
    unfold En.goOnK
    split
    · have h1 := goOnK_len n x.take1
      have h2 := x.take1_len
      omega
    · omega
theorem goOn_len (x : En) : x.goOn.out.length ≤ x.out.length + 384 := by
  unfold En.goOn
  split
  · exact goOnK_len 128 x
  · omega
theorem open1_len (x : En) : x.open1.out.length ≤ x.out.length + 386 := by
  unfold En.open1
  have h1 := goOn_len ((((x.setFl x.fl.reset).stop 200).start 203).setState 7)
  have h2 : ((x.setFl x.fl.reset).stop 200).out.length ≤ x.out.length + 1 := En.stop_len (x.setFl x.fl.reset) 200
  have h3 : ((((x.setFl x.fl.reset).stop 200).start 203).setState 7).out.length = ((x.setFl x.fl.reset).stop 200).out.length + 1 := En.start_len ((x.setFl x.fl.reset).stop 200) 203
  omega
theorem end1_len (x : En) : x.end1.out.length ≤ x.out.length + 2 := by
  have h2 : ((x.setFl x.fl.clear).stop 200).out.length ≤ x.out.length + 1 := En.stop_len (x.setFl x.fl.clear) 200
  have h3 : x.end1.out.length ≤ ((x.setFl x.fl.clear).stop 200).out.length + 1 := En.stop_len ((x.setFl x.fl.clear).stop 200) 203
  omega
theorem inquire_len (x : En) : x.inquire.out.length = x.out.length + 2 := by
  unfold En.inquire
  rw [En.start_len, En.superv_len]
/-- a payload that is taken counts as sent -/
theorem take_sent {s : Fl} (h : s.take.2.2.2 = true) : s.take.1.q.sent = s.q.sent + 1 := by
  unfold Fl.take at h ⊢
  split
  · rename_i h1; rw [if_pos h1] at h; cases h
  · rename_i h1
    have : ¬ s.q.l.length ≤ s.q.sent := fun h2 => h1 (.inr (.inl h2))
    simp only [Q.take]
    rw [if_pos (by omega)]
theorem goOnK_stop {n : Nat} {x : En} (h : x.fl.take.2.2.2 = false) : En.goOnK n x = x := by
  cases n with
  | zero => rfl
  | succ n => unfold En.goOnK; rw [if_neg (by rw [h]; simp)]
theorem goOnK_step {n : Nat} {x : En} (h : x.fl.take.2.2.2 = true) : En.goOnK (n + 1) x = En.goOnK n x.take1 := by
  conv => lhs; unfold En.goOnK
  rw [if_pos h]
end Go.Proofs.YtoophfokbioaaaaGreatDoor
