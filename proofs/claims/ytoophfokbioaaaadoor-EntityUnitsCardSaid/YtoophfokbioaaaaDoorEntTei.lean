/- The entity: what keeps its TEI; what is so where it has none. -/
import Derived.Test.YtoophfokbioaaaaDoorEntOkB
namespace Go.Proofs.YtoophfokbioaaaaDoor
open Go.RowKit

def Te (y : En) (t : Int) : Prop := y.tei = t
section
variable {x : En} {t : Int}
theorem Te.setFl (h : Te x t) (f : Fl) : Te (x.setFl f) t := h
theorem Te.setState (h : Te x t) (f : Int) : Te (x.setState f) t := h
theorem Te.setTries (h : Te x t) (f : Int) : Te (x.setTries f) t := h
theorem Te.setAsked (h : Te x t) (f : Bool) : Te (x.setAsked f) t := h
theorem Te.setUnits (h : Te x t) (f : List ByteArray) : Te (x.setUnits f) t := h
theorem Te.setT (h : Te x t) (k : Int) (f : Bool) : Te (x.setT k f) t := by unfold Te; rw [En.setT_tei]; exact h
theorem Te.told (h : Te x t) (k : Int) (d : ByteArray) : Te (x.told k d) t := h
theorem Te.sendD (h : Te x t) (k : Int) (c p : Bool) (i : Int) (d : ByteArray) : Te (x.sendD k c p i d) t := h
theorem Te.send (h : Te x t) (k : Int) (c p : Bool) : Te (x.send k c p) t := h
theorem Te.superv (h : Te x t) (c p : Bool) : Te (x.superv c p) t := h
theorem Te.start (h : Te x t) (k : Int) : Te (x.start k) t := by unfold Te; rw [En.start_tei]; exact h
theorem Te.stop (h : Te x t) (k : Int) : Te (x.stop k) t := by unfold Te; rw [En.stop_tei]; exact h
theorem Te.call (h : Te x t) : Te x.call t := by unfold Te; rw [call_tei]; exact h
theorem Te.anew (h : Te x t) (l : ByteArray) : Te (x.anew l) t := ((h.told 7 l).setAsked false).call
theorem Te.goOnK : ∀ (n : Nat) {x : En}, Te x t → Te (En.goOnK n x) t
  | 0, _, h => h
  | n + 1, x, h => by
    unfold En.goOnK
    split
    · exact Te.goOnK n (show Te x.take1 t by unfold Te; rw [take1_tei]; exact h)
    · exact h
theorem Te.goOn (h : Te x t) : Te x.goOn t := by
  unfold En.goOn
  split
  · exact h.goOnK 128
  · exact h
theorem Te.open1 (h : Te x t) : Te x.open1 t := ((((h.setFl _).stop 200).start 203).setState 7).goOn
theorem Te.end1 (h : Te x t) : Te x.end1 t := by unfold Te; rw [end1_tei]; exact h
theorem Te.inquire (h : Te x t) : Te x.inquire t := (h.superv true true).start 200
theorem Te.unsure (h : Te x t) : Te x.unsure t := by unfold Te; rw [unsure_tei]; exact h
theorem Te.count (h : Te x t) (k : Int) : Te (x.count k) t := by unfold Te; rw [count_tei]; exact h
theorem Te.ite {y : En} {c : Prop} [Decidable c] (h : Te x t) (h2 : Te y t) : Te (if c then x else y) t := by
  split
  · exact h
  · exact h2
end
section
variable {x : En} {t : Int} (h : Te x t)
include h
theorem Te.establish : Te x.establish.1 t := by
  unfold En.establish
  repeat' split
  all_goals ((try dsimp only); (repeat' (with_reducible first | assumption | apply Te.setFl | apply Te.setState | apply Te.setTries | apply Te.setAsked | apply Te.setUnits | apply Te.setT | apply Te.told | apply Te.sendD | apply Te.send | apply Te.superv | apply Te.start | apply Te.stop | apply Te.call | apply Te.anew | apply Te.goOn | apply Te.open1 | apply Te.end1 | apply Te.inquire | apply Te.unsure | apply Te.count | apply Te.ite)))
theorem Te.release : Te x.release.1 t := by
  unfold En.release
  repeat' split
  all_goals ((try dsimp only); (repeat' (with_reducible first | assumption | apply Te.setFl | apply Te.setState | apply Te.setTries | apply Te.setAsked | apply Te.setUnits | apply Te.setT | apply Te.told | apply Te.sendD | apply Te.send | apply Te.superv | apply Te.start | apply Te.stop | apply Te.call | apply Te.anew | apply Te.goOn | apply Te.open1 | apply Te.end1 | apply Te.inquire | apply Te.unsure | apply Te.count | apply Te.ite)))
theorem Te.data (d : ByteArray) : Te (x.data d).1 t := by
  unfold En.data
  repeat' split
  all_goals ((try dsimp only); (repeat' (with_reducible first | assumption | apply Te.setFl | apply Te.setState | apply Te.setTries | apply Te.setAsked | apply Te.setUnits | apply Te.setT | apply Te.told | apply Te.sendD | apply Te.send | apply Te.superv | apply Te.start | apply Te.stop | apply Te.call | apply Te.anew | apply Te.goOn | apply Te.open1 | apply Te.end1 | apply Te.inquire | apply Te.unsure | apply Te.count | apply Te.ite)))
theorem Te.unit (d : ByteArray) : Te (x.unit d).1 t := by
  unfold En.unit
  repeat' split
  all_goals ((try dsimp only); (repeat' (with_reducible first | assumption | apply Te.setFl | apply Te.setState | apply Te.setTries | apply Te.setAsked | apply Te.setUnits | apply Te.setT | apply Te.told | apply Te.sendD | apply Te.send | apply Te.superv | apply Te.start | apply Te.stop | apply Te.call | apply Te.anew | apply Te.goOn | apply Te.open1 | apply Te.end1 | apply Te.inquire | apply Te.unsure | apply Te.count | apply Te.ite)))
theorem Te.own (b : Bool) : Te (x.own b).1 t := by
  unfold En.own
  repeat' split
  all_goals ((try dsimp only); (repeat' (with_reducible first | assumption | apply Te.setFl | apply Te.setState | apply Te.setTries | apply Te.setAsked | apply Te.setUnits | apply Te.setT | apply Te.told | apply Te.sendD | apply Te.send | apply Te.superv | apply Te.start | apply Te.stop | apply Te.call | apply Te.anew | apply Te.goOn | apply Te.open1 | apply Te.end1 | apply Te.inquire | apply Te.unsure | apply Te.count | apply Te.ite)))
theorem Te.strange (f : Fr) : Te (x.strange f) t := h.told 7 _
theorem Te.inAssigned (f : Fr) : Te (x.inAssigned f) t := by
  have := h.strange f
  unfold En.inAssigned
  repeat' split
  all_goals ((try dsimp only); (repeat' (with_reducible first | assumption | apply Te.setFl | apply Te.setState | apply Te.setTries | apply Te.setAsked | apply Te.setUnits | apply Te.setT | apply Te.told | apply Te.sendD | apply Te.send | apply Te.superv | apply Te.start | apply Te.stop | apply Te.call | apply Te.anew | apply Te.goOn | apply Te.open1 | apply Te.end1 | apply Te.inquire | apply Te.unsure | apply Te.count | apply Te.ite)))
theorem Te.inConnecting (f : Fr) : Te (x.inConnecting f) t := by
  unfold En.inConnecting
  repeat' split
  all_goals ((try dsimp only); (repeat' (with_reducible first | assumption | apply Te.setFl | apply Te.setState | apply Te.setTries | apply Te.setAsked | apply Te.setUnits | apply Te.setT | apply Te.told | apply Te.sendD | apply Te.send | apply Te.superv | apply Te.start | apply Te.stop | apply Te.call | apply Te.anew | apply Te.goOn | apply Te.open1 | apply Te.end1 | apply Te.inquire | apply Te.unsure | apply Te.count | apply Te.ite)))
theorem Te.inReleasing (f : Fr) : Te (x.inReleasing f) t := by
  unfold En.inReleasing
  repeat' split
  all_goals ((try dsimp only); (repeat' (with_reducible first | assumption | apply Te.setFl | apply Te.setState | apply Te.setTries | apply Te.setAsked | apply Te.setUnits | apply Te.setT | apply Te.told | apply Te.sendD | apply Te.send | apply Te.superv | apply Te.start | apply Te.stop | apply Te.call | apply Te.anew | apply Te.goOn | apply Te.open1 | apply Te.end1 | apply Te.inquire | apply Te.unsure | apply Te.count | apply Te.ite)))
theorem Te.supervised (f : Fr) : Te (x.supervised f) t := by
  unfold En.supervised
  all_goals ((try dsimp only); (repeat' (with_reducible first | assumption | apply Te.setFl | apply Te.setState | apply Te.setTries | apply Te.setAsked | apply Te.setUnits | apply Te.setT | apply Te.told | apply Te.sendD | apply Te.send | apply Te.superv | apply Te.start | apply Te.stop | apply Te.call | apply Te.anew | apply Te.goOn | apply Te.open1 | apply Te.end1 | apply Te.inquire | apply Te.unsure | apply Te.count | apply Te.ite)))
theorem Te.info (f : Fr) : Te (x.info f) t := by
  unfold En.info
  all_goals ((try dsimp only); (repeat' (with_reducible first | assumption | apply Te.setFl | apply Te.setState | apply Te.setTries | apply Te.setAsked | apply Te.setUnits | apply Te.setT | apply Te.told | apply Te.sendD | apply Te.send | apply Te.superv | apply Te.start | apply Te.stop | apply Te.call | apply Te.anew | apply Te.goOn | apply Te.open1 | apply Te.end1 | apply Te.inquire | apply Te.unsure | apply Te.count | apply Te.ite)))
theorem Te.inOpen (f : Fr) : Te (x.inOpen f) t := by
  have h1 := h.strange f
  have h2 := h.info f
  have h3 := h.supervised f
  unfold En.inOpen
  repeat' split
  all_goals ((try dsimp only); (repeat' (with_reducible first | assumption | apply Te.setFl | apply Te.setState | apply Te.setTries | apply Te.setAsked | apply Te.setUnits | apply Te.setT | apply Te.told | apply Te.sendD | apply Te.send | apply Te.superv | apply Te.start | apply Te.stop | apply Te.call | apply Te.anew | apply Te.goOn | apply Te.open1 | apply Te.end1 | apply Te.inquire | apply Te.unsure | apply Te.count | apply Te.ite)))
theorem Te.again (k : Int) (l : ByteArray) (g : Int) : Te (x.again k l g) t := by
  unfold En.again
  repeat' split
  all_goals ((try dsimp only); (repeat' (with_reducible first | assumption | apply Te.setFl | apply Te.setState | apply Te.setTries | apply Te.setAsked | apply Te.setUnits | apply Te.setT | apply Te.told | apply Te.sendD | apply Te.send | apply Te.superv | apply Te.start | apply Te.stop | apply Te.call | apply Te.anew | apply Te.goOn | apply Te.open1 | apply Te.end1 | apply Te.inquire | apply Te.unsure | apply Te.count | apply Te.ite)))
end
theorem ask_tei (x : En) (a : Int) (d : ByteArray) : (x.ask a d).1.tei = x.tei := by
  have h : Te x x.tei := rfl
  have h1 := h.establish
  have h2 := h.release
  have h3 := h.data d
  have h4 := h.unit d
  have h5 := h.own (a == 4)
  unfold En.ask
  repeat' split
  all_goals first | rfl | assumption
theorem frame_tei (x : En) (f : Fr) : (x.frame f).1.tei = x.tei := by
  have h : Te x x.tei := rfl
  have h1 := h.inAssigned f
  have h2 := h.inConnecting f
  have h3 := h.inReleasing f
  have h4 := h.inOpen f
  have h5 : Te (x.told 6 f.info) x.tei := h
  unfold En.frame
  split
  · rfl
  · show Te (if _ then _ else _) _
    all_goals ((try dsimp only); (repeat' (with_reducible first | assumption | apply Te.setFl | apply Te.setState | apply Te.setTries | apply Te.setAsked | apply Te.setUnits | apply Te.setT | apply Te.told | apply Te.sendD | apply Te.send | apply Te.superv | apply Te.start | apply Te.stop | apply Te.call | apply Te.anew | apply Te.goOn | apply Te.open1 | apply Te.end1 | apply Te.inquire | apply Te.unsure | apply Te.count | apply Te.ite)))
theorem timeout_tei (x : En) (k : Int) : (x.timeout k).1.tei = x.tei := by
  have h : Te x x.tei := rfl
  have hx : Te (x.setT k false) x.tei := h.setT k false
  have h1 := hx.again 4 ⟨#[71]⟩ 3
  have h2 := hx.again 7 ⟨#[72]⟩ 4
  unfold En.timeout
  split
  · rfl
  · show Te (if _ then _ else _) _
    all_goals ((try dsimp only); (repeat' (with_reducible first | assumption | apply Te.setFl | apply Te.setState | apply Te.setTries | apply Te.setAsked | apply Te.setUnits | apply Te.setT | apply Te.told | apply Te.sendD | apply Te.send | apply Te.superv | apply Te.start | apply Te.stop | apply Te.call | apply Te.anew | apply Te.goOn | apply Te.open1 | apply Te.end1 | apply Te.inquire | apply Te.unsure | apply Te.count | apply Te.ite)))
/-- of an entity that has no TEI -/
def En.Low (x : En) : Prop := x.state < 4 → x.tei = -1 ∧ x.t2 = false ∧ x.t3 = false ∧ x.fl.q.l = [] ∧ x.fl.q.sent = 0 ∧ (x.state = 1 → x.units = [])
theorem low_of {x y : En} (hx : x.Ok) (hy : y.Ok) (ht : y.tei = x.tei) (h4 : 4 ≤ x.state) : y.Low := fun h => by
  have := hx.tei.2 h4
  have := hy.tei.1 (by omega)
  omega
theorem low_ask {x : En} (ok : x.Ok) (h : x.Low) (a : Int) (d : ByteArray) : (x.ask a d).1.Low := by
  by_cases h4 : 4 ≤ x.state
  · exact low_of ok (ok_ask ok a d) (ask_tei x a d) h4
  have hl := h (by omega)
  obtain ⟨t1, t2, t3, q1, q2, u⟩ := hl
  have s1 := ok.s1
  have up : x.up = false := by unfold En.up; simp; omega
  unfold En.ask
  split
  · exact h
  · split
    · exact h
    · dsimp only
      split
      · unfold En.establish
        split
        · exact fun _ => ⟨t1, t2, t3, q1, q2, fun e => absurd (show (3 : Int) = 1 from e) (by decide)⟩
        · split
          · exact fun _ => ⟨t1, t2, t3, q1, q2, fun e => absurd (show (3 : Int) = 1 from e) (by decide)⟩
          · rw [if_neg (by omega), if_neg (by omega), if_neg (by omega), if_neg (by omega)]
            exact h
      · split
        · unfold En.release
          rw [if_neg (by omega), up, if_neg (by decide)]
          exact h
        · split
          · unfold En.data
            rw [if_pos ⟨up, Or.inl (by omega)⟩]
            exact h
          · split
            · unfold En.unit
              rw [if_neg (by omega)]
              split
              · exact h
              · split
                · exact fun _ => ⟨t1, t2, t3, q1, q2, fun e => absurd (show (2 : Int) = 1 from e) (by decide)⟩
                · rename_i hn
                  exact fun _ => ⟨t1, t2, t3, q1, q2, fun e => absurd e hn⟩
            · unfold En.own
              rw [if_pos up]
              exact h
theorem low_timeout {x : En} (ok : x.Ok) (h : x.Low) (k : Int) : (x.timeout k).1.Low := by
  by_cases h4 : 4 ≤ x.state
  · exact low_of ok (ok_timeout ok k) (timeout_tei x k) h4
  obtain ⟨_, t2, t3, _⟩ := h (by omega)
  unfold En.timeout
  rw [if_pos (by unfold En.runs; rw [t2, t3]; simp)]
  exact h
theorem low_frame {x : En} (ok : x.Ok) (h : x.Low) (f : Fr) : (x.frame f).1.Low := by
  by_cases h4 : 4 ≤ x.state
  · exact low_of ok (ok_frame ok f) (frame_tei x f) h4
  obtain ⟨t1, _⟩ := h (by omega)
  unfold En.frame
  rw [if_pos (Or.inl (by omega))]
  exact h
theorem low_assign {x : En} (ok : x.Ok) (h : x.Low) (t : Int) : (x.assign t).1.Low := by
  have hk := ok_assign ok t
  revert hk
  unfold En.assign
  split
  · exact fun _ => h
  · split
    · exact fun _ => h
    · rename_i ht _
      intro hk hs
      have hu := unitsK_tei x.units (x := ((x.setTei t).setState 4).setUnits []) (Int.le_refl _)
      have h0 : Te (x.units.foldl (fun y s => (y.unit s).1) (((x.setTei t).setState 4).setUnits [])) t := hu
      have hz := ((h0.setAsked true).call).ite (c := x.state = 3) h0
      have he := hk.tei.1 (Int.le_trans (show 0 ≤ t by omega) (Int.le_of_eq (show t = _ from (show _ = t from hz).symm)))
      omega
theorem low_remove {x : En} (h : x.Low) : x.remove.1.Low := by
  unfold En.remove
  split
  · exact h
  · dsimp only
    intro _
    have e1 : x.end1.t2 = false ∧ x.end1.t3 = false ∧ x.end1.fl = x.fl.clear := by
      unfold En.end1 En.stop En.runs En.setT En.setFl En.setState En.tell
      simp
      repeat' split
      all_goals simp_all
    have e2 : ∀ k, (x.end1.told k noStr).t2 = false ∧ (x.end1.told k noStr).t3 = false ∧ (x.end1.told k noStr).fl = x.fl.clear := fun _ => e1
    refine ⟨rfl, ?_, ?_, ?_, ?_, fun _ => rfl⟩
    all_goals
      repeat' split
      all_goals first | exact e1.1 | exact e1.2.1 | exact (congrArg (fun f : Fl => f.q.l) e1.2.2) | exact (congrArg (fun f : Fl => f.q.sent) e1.2.2)
end Go.Proofs.YtoophfokbioaaaaDoor
