/- A link that nobody answers: what an entity tells, time after time. -/
import Derived.Test.YtoophfokbioaaaaGreatDoorEntTei
namespace Go.Proofs.YtoophfokbioaaaaGreatDoor
open Go.RowKit

/-- a frame of a kind is sent -/
def sendK (K : Int) (y : Fx) : Bool := y.kind == 0 && y.fr.kind == K
/-- behind so many timers: still asked, or given up -/
structure GiveA (X : En) (L : List Fx) (K T s : Int) (i m : Nat) : Prop where
  ok : X.Ok
  out : X.out = []
  alt : (i ≤ m ∧ X.state = s ∧ X.tries = (i : Int) ∧ X.t2 = true ∧ X.most = (m : Int) ∧ List.countP (sendK K) L = 1 ∧ ∀ y ∈ L, y.kind ≠ T) ∨
    (i = m + 1 ∧ X.state = 4 ∧ X.t2 = false ∧ ∃ y0 y1 r, L = y0 :: y1 :: r ∧ y0.kind ≠ 0 ∧ y0.kind ≠ T ∧ y1.kind = T)
theorem stop_t2_200 (x : En) : (x.stop 200).t2 = false := En.stop200_t2 x
theorem end1_t2 (x : En) : x.end1.t2 = false := by
  show ((((x.setFl x.fl.clear).stop 200).stop 203)).t2 = false
  rw [En.stop203_t2, En.stop200_t2]
theorem stop_app (x : En) (t : Int) : ∃ r, (x.stop t).out = x.out ++ r := by
  unfold En.stop
  split
  · refine ⟨[Fx.tim 10 t], ?_⟩
    show (x.setT t false).out ++ _ = _
    rw [En.setT_out]
  · exact ⟨[], (List.append_nil _).symm⟩
theorem end1_app (x : En) : ∃ r, x.end1.out = x.out ++ r := by
  obtain ⟨r, h1⟩ := stop_app (x.setFl x.fl.clear) 200
  obtain ⟨r2, h2⟩ := stop_app ((x.setFl x.fl.clear).stop 200) 203
  refine ⟨r ++ r2, ?_⟩
  show (((x.setFl x.fl.clear).stop 200).stop 203).out = _
  rw [h2, h1, List.append_assoc]
  rfl
theorem give_again {x : En} (K T : Int) (l : ByteArray) (h : x.out = []) :
    (x.tries = x.most → ∃ y0 y1 r, (x.again K l T).out = y0 :: y1 :: r ∧ y0.kind = 7 ∧ y1.kind = T ∧ (x.again K l T).state = 4 ∧ (x.again K l T).t2 = false) ∧
    (x.tries ≠ x.most → ∃ y0 y1, (x.again K l T).out = [y0, y1] ∧ y0.kind = 0 ∧ y0.fr.kind = K ∧ y1.kind = 9 ∧ (x.again K l T).state = x.state ∧ (x.again K l T).t2 = true ∧ (x.again K l T).tries = x.tries + 1 ∧ (x.again K l T).most = x.most) := by
  unfold En.again
  constructor
  · intro e
    rw [if_pos e]
    obtain ⟨r, hr⟩ := end1_app ((x.told 7 l).told T noStr)
    have e0 : ((x.told 7 l).told T noStr).out = [Fx.of 7 l, Fx.of T noStr] := by
      show (x.out ++ [_]) ++ [_] = _
      rw [h]
      rfl
    refine ⟨Fx.of 7 l, Fx.of T noStr, r, ?_, rfl, rfl, rfl, end1_t2 _⟩
    rw [hr, e0]
    rfl
  · intro e
    rw [if_neg e]
    refine ⟨⟨0, ⟨0, x.tei, true, K, true, 0, if numb K = true then (x.fl.vr : Int) else 0, noStr⟩, noStr, 0⟩, Fx.tim 9 200, ?_, rfl, rfl, rfl, rfl, rfl, rfl, rfl⟩
    show (x.out ++ [_]) ++ [_] = _
    rw [h]
    rfl
theorem give_step {X : En} {L : List Fx} {K T s : Int} {i m : Nat} (hs : s = 5 ∧ K = 4 ∧ T = 3 ∨ s = 6 ∧ K = 7 ∧ T = 4) (h : GiveA X L K T s i m) (hT : ∀ y ∈ L, y.kind ≠ T) : GiveA (X.timeout 200).1 (X.timeout 200).2 K T s (i + 1) m := by
  obtain ⟨ok, out, alt⟩ := h
  rcases alt with ⟨hi, h1, h2, h3, h4, h5, h6⟩ | ⟨_, _, _, y0, y1, r, rfl, _, _, h8⟩
  · have hr : X.runs 200 = true := h3
    have h0 : (X.setT 200 false).out = [] := by rw [En.setT_out]; exact out
    have t0 : (X.setT 200 false).tries = X.tries := En.setT_tries X 200 false
    have m0 : (X.setT 200 false).most = X.most := En.setT_most X 200 false
    have s0 : (X.setT 200 false).state = X.state := En.setT_state X 200 false
    refine ⟨ok_timeout ok 200, ?_, ?_⟩
    · unfold En.timeout
      rw [hr, if_neg (by decide)]
      rfl
    · have key : ∀ l : ByteArray, (X.timeout 200).1 = ((X.setT 200 false).again K l T).done → (X.timeout 200).2 = ((X.setT 200 false).again K l T).out → (i + 1 ≤ m ∧ (X.timeout 200).1.state = s ∧ (X.timeout 200).1.tries = ((i + 1 : Nat) : Int) ∧ (X.timeout 200).1.t2 = true ∧ (X.timeout 200).1.most = (m : Int) ∧ List.countP (sendK K) (X.timeout 200).2 = 1 ∧ ∀ y ∈ (X.timeout 200).2, y.kind ≠ T) ∨ (i + 1 = m + 1 ∧ (X.timeout 200).1.state = 4 ∧ (X.timeout 200).1.t2 = false ∧ ∃ y0 y1 r, (X.timeout 200).2 = y0 :: y1 :: r ∧ y0.kind ≠ 0 ∧ y0.kind ≠ T ∧ y1.kind = T) := fun l e1 e2 => by
        rw [e1, e2]
        obtain ⟨g1, g2⟩ := give_again (x := X.setT 200 false) K T l h0
        rw [t0, m0, h2, h4] at g1 g2
        by_cases hm : i = m
        · have hq : (i : Int) = m := by rw [hm]
          obtain ⟨y0, y1, r, a1, a2, a3, a4, a5⟩ := g1 hq
          clear g1 g2
          exact Or.inr ⟨by omega, a4, a5, y0, y1, r, a1, by omega, by omega, a3⟩
        · have hq : (i : Int) ≠ m := fun e => hm (Int.ofNat.inj e)
          obtain ⟨y0, y1, a1, a2, a3, a4, a5, a6, a7, a8⟩ := g2 hq
          clear g1 g2
          refine Or.inl ⟨by omega, ?_, by show ((X.setT 200 false).again K l T).tries = _; rw [a7]; push_cast; rfl, a6, a8, ?_, ?_⟩
          · show ((X.setT 200 false).again K l T).state = _
            rw [a5, s0, h1]
          · rw [a1]
            simp [sendK, a2, a3, a4]
          · rw [a1]
            intro y hy
            simp at hy
            rcases hy with rfl | rfl <;> omega
      rcases hs with ⟨rfl, rfl, rfl⟩ | ⟨rfl, rfl, rfl⟩
      · refine key ⟨#[71]⟩ ?_ ?_
        · unfold En.timeout
          rw [hr, if_neg (by decide)]
          dsimp only
          rw [if_pos h1]
        · unfold En.timeout
          rw [hr, if_neg (by decide)]
          dsimp only
          rw [if_pos h1]
      · refine key ⟨#[72]⟩ ?_ ?_
        · unfold En.timeout
          rw [hr, if_neg (by decide)]
          dsimp only
          rw [if_neg (by omega), if_pos h1]
        · unfold En.timeout
          rw [hr, if_neg (by decide)]
          dsimp only
          rw [if_neg (by omega), if_pos h1]
  · exact absurd h8 (hT y1 (by simp))
theorem stop_list (x : En) (t : Int) (P : Fx → Prop) (h : ∀ y ∈ x.out, P y) (hp : P (Fx.tim 10 t)) : ∀ y ∈ (x.stop t).out, P y := by
  unfold En.stop
  split
  · intro y hy
    have hm : y ∈ (x.setT t false).out ++ [Fx.tim 10 t] := hy
    rw [En.setT_out] at hm
    rcases List.mem_append.1 hm with h1 | h1
    · exact h y h1
    · rw [List.mem_singleton.1 h1]; exact hp
  · exact h
theorem stop_cnt (x : En) (t : Int) (K : Int) : List.countP (sendK K) (x.stop t).out = List.countP (sendK K) x.out := by
  unfold En.stop
  split
  · show List.countP _ ((x.setT t false).out ++ [Fx.tim 10 t]) = _
    rw [En.setT_out, List.countP_append]
    rfl
  · rfl
/-- a call, or a release, is sent once -/
theorem ask_sent {x : En} (K T s : Int) (hT : T = 3 ∨ T = 4) (h : x.out = []) : List.countP (sendK K) (((((x.setTries 0).send K true true).stop 203).start 200).setState s).out = 1 ∧ (∀ y ∈ (((((x.setTries 0).send K true true).stop 203).start 200).setState s).out, y.kind ≠ T) ∧ (((((x.setTries 0).send K true true).stop 203).start 200).setState s).t2 = true ∧ (((((x.setTries 0).send K true true).stop 203).start 200).setState s).tries = 0 ∧ (((((x.setTries 0).send K true true).stop 203).start 200).setState s).most = x.most := by
  have e0 : ((x.setTries 0).send K true true).out = [⟨0, ⟨0, x.tei, true, K, true, 0, if numb K = true then (x.fl.vr : Int) else 0, noStr⟩, noStr, 0⟩] := by
    show x.out ++ [_] = _
    rw [h]
    rfl
  have e1 : (((((x.setTries 0).send K true true).stop 203).start 200).setState s).out = (((x.setTries 0).send K true true).stop 203).out ++ [Fx.tim 9 200] := rfl
  refine ⟨?_, ?_, rfl, ?_, ?_⟩
  · rw [e1, List.countP_append, stop_cnt, e0]
    simp [sendK]
  · rw [e1]
    intro y hy
    rcases List.mem_append.1 hy with h1 | h1
    · refine stop_list _ 203 (fun y => y.kind ≠ T) (fun z hz => ?_) ?_ y h1
      · rw [e0, List.mem_singleton] at hz
        rw [hz]
        show (0 : Int) ≠ T
        omega
      · show (10 : Int) ≠ T
        omega
    · rw [List.mem_singleton.1 h1]
      show (9 : Int) ≠ T
      omega
  · show (((((x.setTries 0).send K true true).stop 203).start 200)).tries = 0
    rw [En.start_tries, En.stop_tries]
    rfl
  · show (((((x.setTries 0).send K true true).stop 203).start 200)).most = x.most
    rw [En.start_most, En.stop_most]
    rfl
theorem give_call {x : En} {m : Nat} (ok : x.Ok) (h : x.out = []) (hm : x.most = (m : Int)) (hs : x.state = 4 ∨ x.state = 7 ∨ x.state = 8) : GiveA (x.ask 0 noStr).1 (x.ask 0 noStr).2.1 4 3 5 0 m ∧ (x.ask 0 noStr).2.2 = 0 := by
  have ok' := ok_ask ok 0 noStr
  have e : x.ask 0 noStr = (x.establish.1.done, x.establish.1.out, x.establish.2) := by
    unfold En.ask
    rw [if_neg (by omega), if_neg (by omega)]
    dsimp only
    rw [if_pos rfl]
  have key : ∀ z : En, z.out = [] → z.most = (m : Int) → x.establish = (z.call, 0) → GiveA (x.ask 0 noStr).1 (x.ask 0 noStr).2.1 4 3 5 0 m ∧ (x.ask 0 noStr).2.2 = 0 := fun z h0 h1 h2 => by
    rw [e] at ok'
    rw [e]
    rw [h2] at ok' ⊢
    obtain ⟨a, b, c, d, f⟩ := ask_sent (x := z) 4 3 5 (.inl rfl) h0
    exact ⟨⟨ok', rfl, Or.inl ⟨Nat.zero_le _, rfl, d, c, f.trans h1, a, b⟩⟩, rfl⟩
  unfold En.establish at key
  rw [if_neg (by omega), if_neg (by omega), if_neg (by omega), if_neg (by omega)] at key
  by_cases h78 : x.state = 7 ∨ x.state = 8
  · rw [if_pos h78] at key
    exact key ((x.setFl x.fl.clear).setAsked true) h hm rfl
  · rw [if_neg h78, if_pos (by omega)] at key
    exact key (x.setAsked true) h hm rfl
theorem give_rel {x : En} {m : Nat} (ok : x.Ok) (h : x.out = []) (hm : x.most = (m : Int)) (hs : x.state = 7 ∨ x.state = 8) : GiveA (x.ask 1 noStr).1 (x.ask 1 noStr).2.1 7 4 6 0 m ∧ (x.ask 1 noStr).2.2 = 0 := by
  have ok' := ok_ask ok 1 noStr
  have e : x.ask 1 noStr = (x.release.1.done, x.release.1.out, x.release.2) := by
    unfold En.ask
    rw [if_neg (by omega), if_neg (by omega)]
    dsimp only
    rw [if_neg (by decide), if_pos rfl]
  have hr : x.release = ((((((x.setFl (x.fl.clear)).setTries (0)).send 7 true true).stop 203).start 200).setState (6), 0) := by
    unfold En.release
    rw [if_neg (by omega), if_pos ((En.up_iff x).2 hs)]
  rw [e, hr] at ok'
  rw [e, hr]
  obtain ⟨a, b, c, d, f⟩ := ask_sent (x := x.setFl x.fl.clear) 7 4 6 (.inr rfl) h
  exact ⟨⟨ok', rfl, Or.inl ⟨Nat.zero_le _, rfl, d, c, f.trans hm, a, b⟩⟩, rfl⟩
/-- how often it asks is never changed -/
def Mo (y : En) (t : Int) : Prop := y.most = t
end Go.Proofs.YtoophfokbioaaaaGreatDoor
