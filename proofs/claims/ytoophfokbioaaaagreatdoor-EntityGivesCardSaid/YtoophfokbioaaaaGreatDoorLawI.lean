/- The entity's laws: an act. The entity's laws: how much an act tells. -/
import Derived.Test.YtoophfokbioaaaaGreatDoorLawG
import Derived.Test.YtoophfokbioaaaaGreatDoorEntOkB
import Derived.Test.YtoophfokbioaaaaGreatDoorEntV
namespace Go.Proofs.YtoophfokbioaaaaGreatDoor
open Go.RowKit

theorem setOut_self {x : En} (h : x.out = []) : x.setOut [] = x := by
  obtain ⟨a, b, c, d, e, f, g, u, k, o⟩ := x
  simp only [] at h
  subst h
  rfl
/-- what an act does to an entity -/
def En.act (x : En) (a : AcE) : En × List Fx × Int :=
  if a.Do.tmod 6 = 0 then x.ask a.ask a.data
  else if a.Do.tmod 6 = 2 ∨ a.Do.tmod 6 = -2 then ((x.timeout a.timer).1, (x.timeout a.timer).2, 0)
  else if a.Do.tmod 6 = 3 ∨ a.Do.tmod 6 = -3 then x.assign a.tei
  else if a.Do.tmod 6 = 4 ∨ a.Do.tmod 6 = -4 then x.remove
  else ((x.frame (a.frame x)).1, (x.frame (a.frame x)).2, 0)
theorem ok_act {x : En} (h : x.Ok) (a : AcE) : (x.act a).1.Ok := by
  unfold En.act
  split
  · exact ok_ask h _ _
  · split
    · exact ok_timeout h _
    · split
      · exact ok_assign h _
      · split
        · exact ok_remove h
        · exact ok_frame h _

/-! nothing is told behind a call but what the call told; an error tells nothing; no call tells more than so much -/
theorem ask_out (x : En) (h : x.out = []) (a : Int) (d : ByteArray) : (x.ask a d).1.out = [] ∧ ((x.ask a d).2.2 ≠ 0 → (x.ask a d).2.1 = []) := by
  unfold En.ask
  split
  · exact ⟨h, fun _ => rfl⟩
  · split
    · exact ⟨h, fun _ => rfl⟩
    · refine ⟨rfl, ?_⟩
      simp only []
      split
      · unfold En.establish
        repeat' split
        all_goals first | exact fun e => absurd rfl e | exact fun _ => h
      · split
        · unfold En.release
          repeat' split
          all_goals first | exact fun e => absurd rfl e | exact fun _ => h
        · split
          · unfold En.data
            repeat' split
            all_goals first | exact fun e => absurd rfl e | exact fun _ => h
          · split
            · unfold En.unit
              repeat' split
              all_goals first | exact fun e => absurd rfl e | exact fun _ => h
            · unfold En.own
              repeat' split
              all_goals first | exact fun e => absurd rfl e | exact fun _ => h
theorem assign_out (x : En) (h : x.out = []) (t : Int) : (x.assign t).1.out = [] ∧ ((x.assign t).2.2 ≠ 0 → (x.assign t).2.1 = []) := by
  unfold En.assign
  split
  · exact ⟨h, fun _ => rfl⟩
  · split
    · exact ⟨h, fun _ => rfl⟩
    · exact ⟨rfl, fun e => absurd rfl e⟩
theorem remove_out (x : En) (h : x.out = []) : x.remove.1.out = [] ∧ (x.remove.2.2 ≠ 0 → x.remove.2.1 = []) := by
  unfold En.remove
  split
  · exact ⟨h, fun _ => rfl⟩
  · exact ⟨rfl, fun e => absurd rfl e⟩
theorem timeout_out (x : En) (h : x.out = []) (t : Int) : (x.timeout t).1.out = [] := by
  unfold En.timeout
  split
  · exact h
  · rfl
theorem frame_out (x : En) (h : x.out = []) (f : Fr) : (x.frame f).1.out = [] := by
  unfold En.frame
  split
  · exact h
  · rfl
theorem act_out (x : En) (h : x.out = []) (a : AcE) : (x.act a).1.out = [] ∧ ((x.act a).2.2 ≠ 0 → (x.act a).2.1 = []) := by
  unfold En.act
  split
  · exact ask_out x h _ _
  · split
    · exact ⟨timeout_out x h _, fun e => absurd rfl e⟩
    · split
      · exact assign_out x h _
      · split
        · exact remove_out x h
        · exact ⟨frame_out x h _, fun e => absurd rfl e⟩
end Go.Proofs.YtoophfokbioaaaaGreatDoor

namespace Go.Proofs.YtoophfokbioaaaaGreatDoor
open Go.RowKit

def Out (y : En) (n : Nat) : Prop := y.out.length ≤ n
section
variable {x : En} {n m : Nat}
theorem Out.setFl (h : Out x n) (f : Fl) : Out (x.setFl f) n := h
theorem Out.setState (h : Out x n) (f : Int) : Out (x.setState f) n := h
theorem Out.setTries (h : Out x n) (f : Int) : Out (x.setTries f) n := h
theorem Out.setTei (h : Out x n) (f : Int) : Out (x.setTei f) n := h
theorem Out.setAsked (h : Out x n) (f : Bool) : Out (x.setAsked f) n := h
theorem Out.setUnits (h : Out x n) (f : List ByteArray) : Out (x.setUnits f) n := h
theorem Out.setT (h : Out x n) (t : Int) (f : Bool) : Out (x.setT t f) n := by unfold Out; rw [En.setT_out]; exact h
theorem Out.told (h : Out x n) (k : Int) (d : ByteArray) : Out (x.told k d) (n + 1) := by unfold Out; rw [En.told_len]; exact Nat.succ_le_succ h
theorem Out.sendD (h : Out x n) (k : Int) (c p : Bool) (i : Int) (d : ByteArray) : Out (x.sendD k c p i d) (n + 1) := by unfold Out; rw [En.sendD_len]; exact Nat.succ_le_succ h
theorem Out.send (h : Out x n) (k : Int) (c p : Bool) : Out (x.send k c p) (n + 1) := by unfold Out; rw [En.send_len]; exact Nat.succ_le_succ h
theorem Out.superv (h : Out x n) (c p : Bool) : Out (x.superv c p) (n + 1) := by unfold Out; rw [En.superv_len]; exact Nat.succ_le_succ h
theorem Out.start (h : Out x n) (t : Int) : Out (x.start t) (n + 1) := by unfold Out; rw [En.start_len]; exact Nat.succ_le_succ h
theorem Out.stop (h : Out x n) (t : Int) : Out (x.stop t) (n + 1) := by unfold Out at *; have := En.stop_len (x := x) t; omega
theorem Out.call (h : Out x n) : Out x.call (n + 3) := by unfold Out at *; have := En.call_len (x := x); omega
theorem Out.anew (h : Out x n) (l : ByteArray) : Out (x.anew l) (n + 4) := by unfold Out at *; have := En.anew_len (x := x) l; omega
theorem Out.goOn (h : Out x n) : Out x.goOn (n + 384) := by unfold Out at *; have := goOn_len x; omega
theorem Out.open1 (h : Out x n) : Out x.open1 (n + 386) := by unfold Out at *; have := open1_len x; omega
theorem Out.end1 (h : Out x n) : Out x.end1 (n + 2) := by unfold Out at *; have := end1_len x; omega
theorem Out.inquire (h : Out x n) : Out x.inquire (n + 2) := by unfold Out at *; have := inquire_len x; omega
theorem Out.unsure (h : Out x n) : Out x.unsure (n + 1) := by unfold Out at *; have := En.unsure_len x; omega
theorem Out.count (h : Out x n) (k : Int) : Out (x.count k) (n + 2) := by unfold Out at *; have := count_len x k; omega
theorem Out.unitsK (h : Out x n) (l : List ByteArray) (hl : l.length ≤ 256) : Out (x.unitsK l) (n + 256) := by unfold Out at *; have := unitsK_len l x; omega
theorem Out.ite {y : En} {c : Prop} [Decidable c] (h : Out x n) (h2 : Out y m) : Out (if c then x else y) (n + m) := by
  unfold Out at *
  split <;> omega
theorem Out.fst {y : En} {c : Prop} [Decidable c] {a b : Int} (h : Out x n) (h2 : Out y m) : Out (if c then (x, a) else (y, b)).1 (n + m) := by
  unfold Out at *
  split <;> simp only [] <;> omega
theorem Out.mono (h : Out x n) (l : n ≤ m) : Out x m := Nat.le_trans h l
end

section
variable {x : En} (h : Out x 0)
include h
theorem Out.establish : Out x.establish.1 1000 := by
  unfold En.establish
  repeat' split
  all_goals ((try dsimp only); apply Out.mono; (case h => (repeat' (with_reducible first | assumption | apply Out.setFl | apply Out.setState | apply Out.setTries | apply Out.setTei | apply Out.setAsked | apply Out.setUnits | apply Out.setT | apply Out.told | apply Out.sendD | apply Out.send | apply Out.superv | apply Out.start | apply Out.stop | apply Out.call | apply Out.anew | apply Out.goOn | apply Out.open1 | apply Out.end1 | apply Out.inquire | apply Out.unsure | apply Out.count | apply Out.ite))); (case l => decide))
theorem Out.release : Out x.release.1 1000 := by
  unfold En.release
  repeat' split
  all_goals ((try dsimp only); apply Out.mono; (case h => (repeat' (with_reducible first | assumption | apply Out.setFl | apply Out.setState | apply Out.setTries | apply Out.setTei | apply Out.setAsked | apply Out.setUnits | apply Out.setT | apply Out.told | apply Out.sendD | apply Out.send | apply Out.superv | apply Out.start | apply Out.stop | apply Out.call | apply Out.anew | apply Out.goOn | apply Out.open1 | apply Out.end1 | apply Out.inquire | apply Out.unsure | apply Out.count | apply Out.ite))); (case l => decide))
theorem Out.data (d : ByteArray) : Out (x.data d).1 1000 := by
  unfold En.data
  repeat' split
  all_goals ((try dsimp only); apply Out.mono; (case h => (repeat' (with_reducible first | assumption | apply Out.setFl | apply Out.setState | apply Out.setTries | apply Out.setTei | apply Out.setAsked | apply Out.setUnits | apply Out.setT | apply Out.told | apply Out.sendD | apply Out.send | apply Out.superv | apply Out.start | apply Out.stop | apply Out.call | apply Out.anew | apply Out.goOn | apply Out.open1 | apply Out.end1 | apply Out.inquire | apply Out.unsure | apply Out.count | apply Out.ite))); (case l => decide))
theorem Out.unit (d : ByteArray) : Out (x.unit d).1 1000 := by
  unfold En.unit
  repeat' split
  all_goals ((try dsimp only); apply Out.mono; (case h => (repeat' (with_reducible first | assumption | apply Out.setFl | apply Out.setState | apply Out.setTries | apply Out.setTei | apply Out.setAsked | apply Out.setUnits | apply Out.setT | apply Out.told | apply Out.sendD | apply Out.send | apply Out.superv | apply Out.start | apply Out.stop | apply Out.call | apply Out.anew | apply Out.goOn | apply Out.open1 | apply Out.end1 | apply Out.inquire | apply Out.unsure | apply Out.count | apply Out.ite))); (case l => decide))
theorem Out.own (b : Bool) : Out (x.own b).1 1000 := by
  unfold En.own
  repeat' split
  all_goals ((try dsimp only); apply Out.mono; (case h => (repeat' (with_reducible first | assumption | apply Out.setFl | apply Out.setState | apply Out.setTries | apply Out.setTei | apply Out.setAsked | apply Out.setUnits | apply Out.setT | apply Out.told | apply Out.sendD | apply Out.send | apply Out.superv | apply Out.start | apply Out.stop | apply Out.call | apply Out.anew | apply Out.goOn | apply Out.open1 | apply Out.end1 | apply Out.inquire | apply Out.unsure | apply Out.count | apply Out.ite))); (case l => decide))
theorem Out.strange (f : Fr) : Out (x.strange f) 1000 := by
  unfold En.strange
  all_goals ((try dsimp only); apply Out.mono; (case h => (repeat' (with_reducible first | assumption | apply Out.setFl | apply Out.setState | apply Out.setTries | apply Out.setTei | apply Out.setAsked | apply Out.setUnits | apply Out.setT | apply Out.told | apply Out.sendD | apply Out.send | apply Out.superv | apply Out.start | apply Out.stop | apply Out.call | apply Out.anew | apply Out.goOn | apply Out.open1 | apply Out.end1 | apply Out.inquire | apply Out.unsure | apply Out.count | apply Out.ite))); (case l => decide))
theorem Out.inAssigned (f : Fr) : Out (x.inAssigned f) 2000 := by
  have := h.strange f
  unfold En.inAssigned
  repeat' split
  all_goals ((try dsimp only); apply Out.mono; (case h => (repeat' (with_reducible first | assumption | apply Out.setFl | apply Out.setState | apply Out.setTries | apply Out.setTei | apply Out.setAsked | apply Out.setUnits | apply Out.setT | apply Out.told | apply Out.sendD | apply Out.send | apply Out.superv | apply Out.start | apply Out.stop | apply Out.call | apply Out.anew | apply Out.goOn | apply Out.open1 | apply Out.end1 | apply Out.inquire | apply Out.unsure | apply Out.count | apply Out.ite))); (case l => decide))
theorem Out.inConnecting (f : Fr) : Out (x.inConnecting f) 2000 := by
  unfold En.inConnecting
  repeat' split
  all_goals ((try dsimp only); apply Out.mono; (case h => (repeat' (with_reducible first | assumption | apply Out.setFl | apply Out.setState | apply Out.setTries | apply Out.setTei | apply Out.setAsked | apply Out.setUnits | apply Out.setT | apply Out.told | apply Out.sendD | apply Out.send | apply Out.superv | apply Out.start | apply Out.stop | apply Out.call | apply Out.anew | apply Out.goOn | apply Out.open1 | apply Out.end1 | apply Out.inquire | apply Out.unsure | apply Out.count | apply Out.ite))); (case l => decide))
theorem Out.inReleasing (f : Fr) : Out (x.inReleasing f) 2000 := by
  unfold En.inReleasing
  repeat' split
  all_goals ((try dsimp only); apply Out.mono; (case h => (repeat' (with_reducible first | assumption | apply Out.setFl | apply Out.setState | apply Out.setTries | apply Out.setTei | apply Out.setAsked | apply Out.setUnits | apply Out.setT | apply Out.told | apply Out.sendD | apply Out.send | apply Out.superv | apply Out.start | apply Out.stop | apply Out.call | apply Out.anew | apply Out.goOn | apply Out.open1 | apply Out.end1 | apply Out.inquire | apply Out.unsure | apply Out.count | apply Out.ite))); (case l => decide))
theorem Out.supervised (f : Fr) : Out (x.supervised f) 10000 := by
  unfold En.supervised
  simp only []
  all_goals ((try dsimp only); apply Out.mono; (case h => (repeat' (with_reducible first | assumption | apply Out.setFl | apply Out.setState | apply Out.setTries | apply Out.setTei | apply Out.setAsked | apply Out.setUnits | apply Out.setT | apply Out.told | apply Out.sendD | apply Out.send | apply Out.superv | apply Out.start | apply Out.stop | apply Out.call | apply Out.anew | apply Out.goOn | apply Out.open1 | apply Out.end1 | apply Out.inquire | apply Out.unsure | apply Out.count | apply Out.ite))); (case l => decide))
theorem Out.info (f : Fr) : Out (x.info f) 10000 := by
  unfold En.info
  simp only []
  all_goals ((try dsimp only); apply Out.mono; (case h => (repeat' (with_reducible first | assumption | apply Out.setFl | apply Out.setState | apply Out.setTries | apply Out.setTei | apply Out.setAsked | apply Out.setUnits | apply Out.setT | apply Out.told | apply Out.sendD | apply Out.send | apply Out.superv | apply Out.start | apply Out.stop | apply Out.call | apply Out.anew | apply Out.goOn | apply Out.open1 | apply Out.end1 | apply Out.inquire | apply Out.unsure | apply Out.count | apply Out.ite))); (case l => decide))
theorem Out.inOpen (f : Fr) : Out (x.inOpen f) 20000 := by
  have h1 := h.strange f
  have h2 := h.info f
  have h3 := h.supervised f
  unfold En.inOpen
  repeat' split
  all_goals ((try dsimp only); apply Out.mono; (case h => (repeat' (with_reducible first | assumption | apply Out.setFl | apply Out.setState | apply Out.setTries | apply Out.setTei | apply Out.setAsked | apply Out.setUnits | apply Out.setT | apply Out.told | apply Out.sendD | apply Out.send | apply Out.superv | apply Out.start | apply Out.stop | apply Out.call | apply Out.anew | apply Out.goOn | apply Out.open1 | apply Out.end1 | apply Out.inquire | apply Out.unsure | apply Out.count | apply Out.ite))); (case l => decide))
theorem Out.again (k : Int) (l : ByteArray) (g : Int) : Out (x.again k l g) 1000 := by
  unfold En.again
  repeat' split
  all_goals ((try dsimp only); apply Out.mono; (case h => (repeat' (with_reducible first | assumption | apply Out.setFl | apply Out.setState | apply Out.setTries | apply Out.setTei | apply Out.setAsked | apply Out.setUnits | apply Out.setT | apply Out.told | apply Out.sendD | apply Out.send | apply Out.superv | apply Out.start | apply Out.stop | apply Out.call | apply Out.anew | apply Out.goOn | apply Out.open1 | apply Out.end1 | apply Out.inquire | apply Out.unsure | apply Out.count | apply Out.ite))); (case l => decide))
end
theorem ask_len (x : En) (h : Out x 0) (a : Int) (d : ByteArray) : (x.ask a d).2.1.length ≤ 100000 := by
  unfold En.ask
  split
  · exact Nat.zero_le _
  · split
    · exact Nat.zero_le _
    · simp only []
      have h1 := h.establish
      have h2 := h.release
      have h3 := h.data d
      have h4 := h.unit d
      have h5 := h.own (a == 4)
      repeat' split
      all_goals exact Nat.le_trans (by assumption) (by decide)
theorem assign_len (x : En) (h : Out x 0) (hu : x.units.length ≤ 256) (t : Int) : (x.assign t).2.1.length ≤ 100000 := by
  unfold En.assign
  split
  · exact Nat.zero_le _
  · split
    · exact Nat.zero_le _
    · simp only []
      have h1 := (show Out (((x.setTei t).setState 4).setUnits []) 0 from h).unitsK x.units hu
      split
      · exact (h1.setAsked true).call.mono (by decide)
      · exact h1.mono (by decide)
theorem remove_len (x : En) (h : Out x 0) : x.remove.2.1.length ≤ 100000 := by
  unfold En.remove
  split
  · exact Nat.zero_le _
  · show Out _ _
    all_goals ((try dsimp only); apply Out.mono; (case h => (repeat' (with_reducible first | assumption | apply Out.setFl | apply Out.setState | apply Out.setTries | apply Out.setTei | apply Out.setAsked | apply Out.setUnits | apply Out.setT | apply Out.told | apply Out.sendD | apply Out.send | apply Out.superv | apply Out.start | apply Out.stop | apply Out.call | apply Out.anew | apply Out.goOn | apply Out.open1 | apply Out.end1 | apply Out.inquire | apply Out.unsure | apply Out.count | apply Out.ite))); (case l => decide))
theorem frame_len (x : En) (h : Out x 0) (f : Fr) : (x.frame f).2.length ≤ 100000 := by
  unfold En.frame
  split
  · exact Nat.zero_le _
  · simp only []
    have h1 := h.inAssigned f
    have h2 := h.inConnecting f
    have h3 := h.inReleasing f
    have h4 := h.inOpen f
    show Out _ _
    all_goals ((try dsimp only); apply Out.mono; (case h => (repeat' (with_reducible first | assumption | apply Out.setFl | apply Out.setState | apply Out.setTries | apply Out.setTei | apply Out.setAsked | apply Out.setUnits | apply Out.setT | apply Out.told | apply Out.sendD | apply Out.send | apply Out.superv | apply Out.start | apply Out.stop | apply Out.call | apply Out.anew | apply Out.goOn | apply Out.open1 | apply Out.end1 | apply Out.inquire | apply Out.unsure | apply Out.count | apply Out.ite))); (case l => decide))
theorem timeout_len (x : En) (h : Out x 0) (t : Int) : (x.timeout t).2.length ≤ 100000 := by
  unfold En.timeout
  split
  · exact Nat.zero_le _
  · simp only []
    have hx : Out (x.setT t false) 0 := h.setT t false
    have h1 := hx.again 4 ⟨#[71]⟩ 3
    have h2 := hx.again 7 ⟨#[72]⟩ 4
    show Out _ _
    all_goals ((try dsimp only); apply Out.mono; (case h => (repeat' (with_reducible first | assumption | apply Out.setFl | apply Out.setState | apply Out.setTries | apply Out.setTei | apply Out.setAsked | apply Out.setUnits | apply Out.setT | apply Out.told | apply Out.sendD | apply Out.send | apply Out.superv | apply Out.start | apply Out.stop | apply Out.call | apply Out.anew | apply Out.goOn | apply Out.open1 | apply Out.end1 | apply Out.inquire | apply Out.unsure | apply Out.count | apply Out.ite))); (case l => decide))
theorem act_len (x : En) (h : x.out = []) (hu : x.units.length ≤ 256) (a : AcE) : (x.act a).2.1.length ≤ 100000 := by
  have h0 : Out x 0 := by unfold Out; rw [h]; exact Nat.le_refl _
  unfold En.act
  repeat' split
  · exact ask_len x h0 _ _
  · exact timeout_len x h0 _
  · exact assign_len x h0 hu _
  · exact remove_len x h0
  · exact frame_len x h0 _
theorem act_d0 (x : En) (a : AcE) (h : a.Do.tmod 6 = 0) : x.act a = x.ask a.ask a.data := by
  unfold En.act
  rw [if_pos h]
theorem act_d2 (x : En) (a : AcE) (h : a.Do.tmod 6 = 2 ∨ a.Do.tmod 6 = -2) : x.act a = ((x.timeout a.timer).1, (x.timeout a.timer).2, 0) := by
  unfold En.act
  rw [if_neg (by omega), if_pos h]
theorem act_d3 (x : En) (a : AcE) (h : a.Do.tmod 6 = 3 ∨ a.Do.tmod 6 = -3) : x.act a = x.assign a.tei := by
  unfold En.act
  rw [if_neg (by omega), if_neg (by omega), if_pos h]
theorem act_d4 (x : En) (a : AcE) (h : a.Do.tmod 6 = 4 ∨ a.Do.tmod 6 = -4) : x.act a = x.remove := by
  unfold En.act
  rw [if_neg (by omega), if_neg (by omega), if_neg (by omega), if_pos h]
theorem act_dx (x : En) (a : AcE) (h0 : a.Do.tmod 6 ≠ 0) (h2 : a.Do.tmod 6 ≠ 2) (h2' : a.Do.tmod 6 ≠ -2) (h3 : a.Do.tmod 6 ≠ 3) (h3' : a.Do.tmod 6 ≠ -3) (h4 : a.Do.tmod 6 ≠ 4) (h4' : a.Do.tmod 6 ≠ -4) : x.act a = ((x.frame (a.frame x)).1, (x.frame (a.frame x)).2, 0) := by
  unfold En.act
  rw [if_neg h0, if_neg (by omega), if_neg (by omega), if_neg (by omega)]
end Go.Proofs.YtoophfokbioaaaaGreatDoor
