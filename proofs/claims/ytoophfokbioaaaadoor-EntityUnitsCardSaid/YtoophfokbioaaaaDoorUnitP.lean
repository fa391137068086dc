/- Units ahead of a TEI: what an entity does with them. -/
import Derived.Test.YtoophfokbioaaaaDoorEntTei
namespace Go.Proofs.YtoophfokbioaaaaDoor
open Go.RowKit

/-- a unit that is sent -/
abbrev uFx (t : Int) (s : ByteArray) : Fx := ⟨0, ⟨0, t, true, 6, false, 0, 0, s⟩, noStr, 0⟩
/-- an entity of which units alone were asked -/
def uE (l : List ByteArray) : En := ((newEn 7 3).setState (if l = [] then 1 else 2)).setUnits l
theorem u_fl (l : List ByteArray) : (uE l).fl = newFl 7 := rfl
theorem u_ask_fit {l : List ByteArray} {s : ByteArray} (h1 : s.size ≤ 260) (h2 : l.length < 256) : (uE l).ask 3 s = (uE (l ++ [s]), (if l = [] then [Fx.of 8 noStr] else []), 0) := by
  have hne : l ++ [s] ≠ [] := by simp
  unfold En.ask
  rw [if_neg (by omega), if_neg (by omega)]
  dsimp only
  rw [if_neg (by decide), if_neg (by decide), if_neg (by decide), if_pos rfl]
  unfold En.unit
  by_cases h0 : l = []
  · subst h0
    rw [if_neg (show ¬ 4 ≤ (uE []).state from show ¬ (4 : Int) ≤ 1 by decide), if_neg (show ¬ 256 ≤ (uE []).units.length from show ¬ 256 ≤ 0 by decide), if_pos (show (uE []).state = 1 from rfl), if_pos rfl]
    rfl
  · have hs : (uE l).state = 2 := by show (if l = [] then (1 : Int) else 2) = 2; rw [if_neg h0]
    have hs2 : (uE (l ++ [s])) = ((newEn 7 3).setState 2).setUnits (l ++ [s]) := by unfold uE; rw [if_neg hne]
    have hs3 : (uE l) = ((newEn 7 3).setState 2).setUnits l := by unfold uE; rw [if_neg h0]
    rw [if_neg (by omega), if_neg (show ¬ 256 ≤ (uE l).units.length from show ¬ 256 ≤ l.length by omega), if_neg (by omega), if_neg h0, hs2, hs3]
    rfl
theorem u_ask_not {l : List ByteArray} {s : ByteArray} (h : ¬ (s.size ≤ 260 ∧ l.length < 256)) : ∃ c, c ≠ 0 ∧ (uE l).ask 3 s = (uE l, [], c) := by
  unfold En.ask
  rw [if_neg (by omega)]
  by_cases h1 : 260 < s.size
  · rw [if_pos ⟨Or.inr rfl, h1⟩]
    exact ⟨5, by decide, rfl⟩
  · have h2 : 256 ≤ l.length := by omega
    have h0 : l ≠ [] := by rintro rfl; simp at h2
    have hs : (uE l).state = 2 := by show (if l = [] then (1 : Int) else 2) = 2; rw [if_neg h0]
    rw [if_neg (by omega)]
    dsimp only
    rw [if_neg (by decide), if_neg (by decide), if_neg (by decide), if_pos rfl]
    unfold En.unit
    rw [if_neg (by omega), if_pos (show 256 ≤ (uE l).units.length from h2)]
    exact ⟨10, by decide, rfl⟩
/-- and a call, if one is asked for -/
def uC (call : Bool) (l : List ByteArray) : En := if call = true then (uE l).setState 3 else uE l
theorem u_call (l : List ByteArray) : ((uE l).ask 0 noStr).1 = uC true l := by
  unfold En.ask
  rw [if_neg (by omega), if_neg (by omega)]
  dsimp only
  rw [if_pos rfl]
  unfold En.establish
  by_cases h0 : l = []
  · subst h0
    rw [if_pos (show (uE []).state = 1 from rfl)]
    rfl
  · have hs : (uE l).state = 2 := by show (if l = [] then (1 : Int) else 2) = 2; rw [if_neg h0]
    rw [if_neg (by omega), if_pos hs]
    rfl
theorem u_units (t : Int) (l : List ByteArray) : ∀ {x : En}, 4 ≤ x.state → x.tei = t → l.foldl (fun y s => (y.unit s).1) x = x.setOut (x.out ++ l.map (uFx t)) := by
  induction l with
  | nil =>
    intro x _ _
    rw [List.map_nil, List.append_nil]
    rfl
  | cons s l ih =>
    intro x h4 ht
    have e : (x.unit s).1 = x.tell (uFx t s) := by
      unfold En.unit
      rw [if_pos h4]
      subst ht
      rfl
    show l.foldl _ (x.unit s).1 = _
    rw [e, ih (x := x.tell (uFx t s)) h4 ht]
    show x.setOut ((x.out ++ [uFx t s]) ++ l.map (uFx t)) = _
    rw [List.append_assoc]
    rfl
abbrev uTail (call : Bool) (t : Int) : List Fx := if call = true then [⟨0, ⟨0, t, true, 4, true, 0, 0, noStr⟩, noStr, 0⟩, Fx.tim 9 200] else []
theorem call_quiet {y : En} (h : y.t3 = false) : y.call = (((y.setTries 0).send 4 true true).start 200).setState 5 := by
  unfold En.call En.stop
  rw [if_neg (show ¬ ((y.setTries 0).send 4 true true).runs 203 = true from fun e => by
    have : y.t3 = true := e
    rw [h] at this
    cases this)]
theorem u_assign (call : Bool) (l : List ByteArray) (t : Int) (t0 : 0 ≤ t) (t1 : t ≤ 126) : ((uC call l).assign t).2.1 = l.map (uFx t) ++ uTail call t ∧ ((uC call l).assign t).1.units = [] ∧ ((uC call l).assign t).2.2 = 0 ∧ ((uC call l).assign t).1.fl = newFl 7 := by
  have hs : (uC call l).state < 4 ∧ ((uC call l).state = 3 ↔ call = true) := by
    unfold uC
    cases call with
    | true => exact ⟨show (3 : Int) < 4 by decide, fun _ => rfl, fun _ => rfl⟩
    | false =>
      rw [if_neg (by decide)]
      have : (uE l).state = 1 ∨ (uE l).state = 2 := by
        show (if l = [] then (1 : Int) else 2) = 1 ∨ (if l = [] then (1 : Int) else 2) = 2
        split
        · exact Or.inl rfl
        · exact Or.inr rfl
      refine ⟨by omega, fun e => by omega, fun e => by cases e⟩
  have hu : (uC call l).units = l := by unfold uC; cases call <;> rfl
  have ho : (uC call l).out = [] := by unfold uC; cases call <;> rfl
  have hf : (uC call l).fl = newFl 7 := by unfold uC; cases call <;> rfl
  have h3 : (uC call l).t3 = false := by unfold uC; cases call <;> rfl
  generalize uC call l = x at *
  unfold En.assign
  rw [if_neg (by omega), if_neg (by omega), u_units t x.units (x := ((x.setTei t).setState 4).setUnits []) (Int.le_refl 4) rfl]
  have e0 : (((x.setTei t).setState 4).setUnits []).out = [] := ho
  rw [e0, List.nil_append, hu]
  dsimp only
  cases call with
  | false =>
    rw [if_neg (fun e => by cases hs.2.1 e)]
    refine ⟨?_, rfl, rfl, hf⟩
    show l.map (uFx t) = _
    rw [show uTail false t = [] from rfl, List.append_nil]
  | true =>
    rw [if_pos (hs.2.2 rfl)]
    have k3 : (((((x.setTei t).setState 4).setUnits []).setOut (l.map (uFx t))).setAsked true).t3 = false := h3
    have kf : (((((x.setTei t).setState 4).setUnits []).setOut (l.map (uFx t))).setAsked true).fl = newFl 7 := hf
    have ko : (((((x.setTei t).setState 4).setUnits []).setOut (l.map (uFx t))).setAsked true).out = l.map (uFx t) := rfl
    have ku : (((((x.setTei t).setState 4).setUnits []).setOut (l.map (uFx t))).setAsked true).units = [] := rfl
    have kt : (((((x.setTei t).setState 4).setUnits []).setOut (l.map (uFx t))).setAsked true).tei = t := rfl
    generalize ((((x.setTei t).setState 4).setUnits []).setOut (l.map (uFx t))).setAsked true = y at *
    rw [call_quiet k3]
    refine ⟨?_, ku, rfl, kf⟩
    show (y.out ++ [_]) ++ [_] = _
    have kt2 : (y.setTries 0).tei = t := kt
    rw [ko, kt2, List.append_assoc]
    rfl
end Go.Proofs.YtoophfokbioaaaaDoor
