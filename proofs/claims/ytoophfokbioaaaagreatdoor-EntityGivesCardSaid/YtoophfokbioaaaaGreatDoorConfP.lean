/- What is never changed: how often an entity asks, its window, its queue's bound. -/
import Derived.Test.YtoophfokbioaaaaGreatDoorEntTei
namespace Go.Proofs.YtoophfokbioaaaaGreatDoor
open Go.RowKit

structure Fk (f : Fl) (k : Int) (M : Nat) : Prop where
  k : f.k = k
  m : f.q.most = M
section
variable {s : Fl} {k : Int} {M : Nat} (h : Fk s k M)
include h
theorem Fk.clear : Fk s.clear k M := ⟨h.k, h.m⟩
theorem Fk.reset : Fk s.reset k M := ⟨h.k, (back_most s.q 0).trans h.m⟩
theorem Fk.back : Fk s.back k M := ⟨h.k, (back_most s.q 0).trans h.m⟩
theorem Fk.peer (b : Bool) : Fk (Fl.withPeer s b) k M := ⟨h.k, h.m⟩
theorem Fk.own (b : Bool) : Fk (Fl.withOwn s b) k M := ⟨h.k, h.m⟩
theorem Fk.push (d : ByteArray) : Fk (Fl.withQ s (s.q.push d).1) k M := ⟨h.k, (push_most s.q d).trans h.m⟩
theorem Fk.take : Fk s.take.1 k M := by
  unfold Fl.take
  split
  · exact h
  · exact ⟨h.k, (take_most s.q).trans h.m⟩
theorem Fk.ack (n : Int) : Fk (s.ack n).1 k M := by
  unfold Fl.ack
  split
  · exact ⟨h.k, (done_most s.q _).trans h.m⟩
  · exact h
theorem Fk.come (n : Int) : Fk (s.come n).1 k M := by
  unfold Fl.come
  repeat' split
  all_goals first | exact h | exact ⟨h.k, h.m⟩
end
/-- what an entity was made of -/
structure Cf (y : En) (m k : Int) (M : Nat) : Prop where
  m : y.most = m
  f : Fk y.fl k M
section
variable {x : En} {m k : Int} {M : Nat}
theorem Cf.setFl (h : Cf x m k M) {f : Fl} (hf : Fk f k M) : Cf (x.setFl f) m k M := ⟨h.m, hf⟩
theorem Cf.setState (h : Cf x m k M) (f : Int) : Cf (x.setState f) m k M := ⟨h.m, h.f⟩
theorem Cf.setTei (h : Cf x m k M) (f : Int) : Cf (x.setTei f) m k M := ⟨h.m, h.f⟩
theorem Cf.setTries (h : Cf x m k M) (f : Int) : Cf (x.setTries f) m k M := ⟨h.m, h.f⟩
theorem Cf.setAsked (h : Cf x m k M) (f : Bool) : Cf (x.setAsked f) m k M := ⟨h.m, h.f⟩
theorem Cf.setUnits (h : Cf x m k M) (f : List ByteArray) : Cf (x.setUnits f) m k M := ⟨h.m, h.f⟩
theorem Cf.setOut (h : Cf x m k M) (f : List Fx) : Cf (x.setOut f) m k M := ⟨h.m, h.f⟩
theorem Cf.done (h : Cf x m k M) : Cf x.done m k M := ⟨h.m, h.f⟩
theorem Cf.setT (h : Cf x m k M) (t : Int) (f : Bool) : Cf (x.setT t f) m k M := ⟨(En.setT_most x t f).trans h.m, by rw [En.setT_fl]; exact h.f⟩
theorem Cf.told (h : Cf x m k M) (t : Int) (d : ByteArray) : Cf (x.told t d) m k M := ⟨h.m, h.f⟩
theorem Cf.sendD (h : Cf x m k M) (t : Int) (c p : Bool) (i : Int) (d : ByteArray) : Cf (x.sendD t c p i d) m k M := ⟨h.m, h.f⟩
theorem Cf.send (h : Cf x m k M) (t : Int) (c p : Bool) : Cf (x.send t c p) m k M := ⟨h.m, h.f⟩
theorem Cf.superv (h : Cf x m k M) (c p : Bool) : Cf (x.superv c p) m k M := ⟨h.m, h.f⟩
theorem Cf.start (h : Cf x m k M) (t : Int) : Cf (x.start t) m k M := ⟨(En.start_most x t).trans h.m, by rw [En.start_fl]; exact h.f⟩
theorem Cf.stop (h : Cf x m k M) (t : Int) : Cf (x.stop t) m k M := ⟨(En.stop_most x t).trans h.m, by rw [En.stop_fl]; exact h.f⟩
theorem Cf.call (h : Cf x m k M) : Cf x.call m k M := ((((h.setTries 0).send 4 true true).stop 203).start 200).setState 5
theorem Cf.anew (h : Cf x m k M) (l : ByteArray) : Cf (x.anew l) m k M := ((h.told 7 l).setAsked false).call
theorem Cf.take1 (h : Cf x m k M) : Cf x.take1 m k M := by
  unfold En.take1
  dsimp only
  split
  · exact (h.setFl h.f.take).sendD _ _ _ _ _
  · exact (((h.setFl h.f.take).sendD _ _ _ _ _).stop 203).start 200
theorem Cf.goOnK : ∀ (n : Nat) {x : En}, Cf x m k M → Cf (En.goOnK n x) m k M
  | 0, _, h => h
  | n + 1, x, h => by
    unfold En.goOnK
    split
    · exact Cf.goOnK n h.take1
    · exact h
theorem Cf.goOn (h : Cf x m k M) : Cf x.goOn m k M := by
  unfold En.goOn
  split
  · exact h.goOnK 128
  · exact h
theorem Cf.open1 (h : Cf x m k M) : Cf x.open1 m k M := ((((h.setFl h.f.reset).stop 200).start 203).setState 7).goOn
theorem Cf.end1 (h : Cf x m k M) : Cf x.end1 m k M := (((h.setFl h.f.clear).stop 200).stop 203).setState 4
theorem Cf.inquire (h : Cf x m k M) : Cf x.inquire m k M := (h.superv true true).start 200
theorem Cf.unsure (h : Cf x m k M) : Cf x.unsure m k M := by
  unfold En.unsure
  split
  · exact (h.setFl h.f.clear).told _ _
  · exact h
theorem Cf.count (h : Cf x m k M) (t : Int) : Cf (x.count t) m k M := by
  unfold En.count
  split
  · exact (h.stop 200).start 203
  · split
    · exact h.start 200
    · exact h
theorem Cf.ite {y : En} {c : Prop} [Decidable c] (h : Cf x m k M) (h2 : Cf y m k M) : Cf (if c then x else y) m k M := by
  split
  · exact h
  · exact h2
end
section
variable {x : En} {m k : Int} {M : Nat} (h : Cf x m k M)
include h
theorem Cf.establish : Cf x.establish.1 m k M := by
  unfold En.establish
  repeat' split
  all_goals ((try dsimp only); (repeat' (with_reducible first | assumption | apply Cf.setState | apply Cf.setTei | apply Cf.setTries | apply Cf.setAsked | apply Cf.setUnits | apply Cf.setT | apply Cf.told | apply Cf.sendD | apply Cf.send | apply Cf.superv | apply Cf.start | apply Cf.stop | apply Cf.call | apply Cf.anew | apply Cf.goOn | apply Cf.open1 | apply Cf.end1 | apply Cf.inquire | apply Cf.unsure | apply Cf.count | apply Cf.ite | (refine Cf.setFl ?_ (Fk.clear ?_)) | (refine Cf.setFl ?_ (Fk.own ?_ _)) | (refine Cf.setFl ?_ (Fk.push ?_ _)) | exact Cf.f (by assumption))))
theorem Cf.release : Cf x.release.1 m k M := by
  unfold En.release
  repeat' split
  all_goals ((try dsimp only); (repeat' (with_reducible first | assumption | apply Cf.setState | apply Cf.setTei | apply Cf.setTries | apply Cf.setAsked | apply Cf.setUnits | apply Cf.setT | apply Cf.told | apply Cf.sendD | apply Cf.send | apply Cf.superv | apply Cf.start | apply Cf.stop | apply Cf.call | apply Cf.anew | apply Cf.goOn | apply Cf.open1 | apply Cf.end1 | apply Cf.inquire | apply Cf.unsure | apply Cf.count | apply Cf.ite | (refine Cf.setFl ?_ (Fk.clear ?_)) | (refine Cf.setFl ?_ (Fk.own ?_ _)) | (refine Cf.setFl ?_ (Fk.push ?_ _)) | exact Cf.f (by assumption))))
theorem Cf.data (d : ByteArray) : Cf (x.data d).1 m k M := by
  unfold En.data
  repeat' split
  all_goals ((try dsimp only); (repeat' (with_reducible first | assumption | apply Cf.setState | apply Cf.setTei | apply Cf.setTries | apply Cf.setAsked | apply Cf.setUnits | apply Cf.setT | apply Cf.told | apply Cf.sendD | apply Cf.send | apply Cf.superv | apply Cf.start | apply Cf.stop | apply Cf.call | apply Cf.anew | apply Cf.goOn | apply Cf.open1 | apply Cf.end1 | apply Cf.inquire | apply Cf.unsure | apply Cf.count | apply Cf.ite | (refine Cf.setFl ?_ (Fk.clear ?_)) | (refine Cf.setFl ?_ (Fk.own ?_ _)) | (refine Cf.setFl ?_ (Fk.push ?_ _)) | exact Cf.f (by assumption))))
theorem Cf.unit (d : ByteArray) : Cf (x.unit d).1 m k M := by
  unfold En.unit
  repeat' split
  all_goals ((try dsimp only); (repeat' (with_reducible first | assumption | apply Cf.setState | apply Cf.setTei | apply Cf.setTries | apply Cf.setAsked | apply Cf.setUnits | apply Cf.setT | apply Cf.told | apply Cf.sendD | apply Cf.send | apply Cf.superv | apply Cf.start | apply Cf.stop | apply Cf.call | apply Cf.anew | apply Cf.goOn | apply Cf.open1 | apply Cf.end1 | apply Cf.inquire | apply Cf.unsure | apply Cf.count | apply Cf.ite | (refine Cf.setFl ?_ (Fk.clear ?_)) | (refine Cf.setFl ?_ (Fk.own ?_ _)) | (refine Cf.setFl ?_ (Fk.push ?_ _)) | exact Cf.f (by assumption))))
theorem Cf.askOwn (b : Bool) : Cf (x.own b).1 m k M := by
  unfold En.own
  repeat' split
  all_goals ((try dsimp only); (repeat' (with_reducible first | assumption | apply Cf.setState | apply Cf.setTei | apply Cf.setTries | apply Cf.setAsked | apply Cf.setUnits | apply Cf.setT | apply Cf.told | apply Cf.sendD | apply Cf.send | apply Cf.superv | apply Cf.start | apply Cf.stop | apply Cf.call | apply Cf.anew | apply Cf.goOn | apply Cf.open1 | apply Cf.end1 | apply Cf.inquire | apply Cf.unsure | apply Cf.count | apply Cf.ite | (refine Cf.setFl ?_ (Fk.clear ?_)) | (refine Cf.setFl ?_ (Fk.own ?_ _)) | (refine Cf.setFl ?_ (Fk.push ?_ _)) | exact Cf.f (by assumption))))
theorem Cf.strange (f : Fr) : Cf (x.strange f) m k M := h.told 7 _
theorem Cf.inAssigned (f : Fr) : Cf (x.inAssigned f) m k M := by
  have := h.strange f
  unfold En.inAssigned
  repeat' split
  all_goals ((try dsimp only); (repeat' (with_reducible first | assumption | apply Cf.setState | apply Cf.setTei | apply Cf.setTries | apply Cf.setAsked | apply Cf.setUnits | apply Cf.setT | apply Cf.told | apply Cf.sendD | apply Cf.send | apply Cf.superv | apply Cf.start | apply Cf.stop | apply Cf.call | apply Cf.anew | apply Cf.goOn | apply Cf.open1 | apply Cf.end1 | apply Cf.inquire | apply Cf.unsure | apply Cf.count | apply Cf.ite | (refine Cf.setFl ?_ (Fk.clear ?_)) | (refine Cf.setFl ?_ (Fk.own ?_ _)) | (refine Cf.setFl ?_ (Fk.push ?_ _)) | exact Cf.f (by assumption))))
theorem Cf.inConnecting (f : Fr) : Cf (x.inConnecting f) m k M := by
  unfold En.inConnecting
  repeat' split
  all_goals ((try dsimp only); (repeat' (with_reducible first | assumption | apply Cf.setState | apply Cf.setTei | apply Cf.setTries | apply Cf.setAsked | apply Cf.setUnits | apply Cf.setT | apply Cf.told | apply Cf.sendD | apply Cf.send | apply Cf.superv | apply Cf.start | apply Cf.stop | apply Cf.call | apply Cf.anew | apply Cf.goOn | apply Cf.open1 | apply Cf.end1 | apply Cf.inquire | apply Cf.unsure | apply Cf.count | apply Cf.ite | (refine Cf.setFl ?_ (Fk.clear ?_)) | (refine Cf.setFl ?_ (Fk.own ?_ _)) | (refine Cf.setFl ?_ (Fk.push ?_ _)) | exact Cf.f (by assumption))))
theorem Cf.inReleasing (f : Fr) : Cf (x.inReleasing f) m k M := by
  unfold En.inReleasing
  repeat' split
  all_goals ((try dsimp only); (repeat' (with_reducible first | assumption | apply Cf.setState | apply Cf.setTei | apply Cf.setTries | apply Cf.setAsked | apply Cf.setUnits | apply Cf.setT | apply Cf.told | apply Cf.sendD | apply Cf.send | apply Cf.superv | apply Cf.start | apply Cf.stop | apply Cf.call | apply Cf.anew | apply Cf.goOn | apply Cf.open1 | apply Cf.end1 | apply Cf.inquire | apply Cf.unsure | apply Cf.count | apply Cf.ite | (refine Cf.setFl ?_ (Fk.clear ?_)) | (refine Cf.setFl ?_ (Fk.own ?_ _)) | (refine Cf.setFl ?_ (Fk.push ?_ _)) | exact Cf.f (by assumption))))
theorem Cf.sup1 (c p : Bool) : Cf (x.sup1 c p) m k M := by
  unfold En.sup1
  all_goals ((try dsimp only); (repeat' (with_reducible first | assumption | apply Cf.setState | apply Cf.setTei | apply Cf.setTries | apply Cf.setAsked | apply Cf.setUnits | apply Cf.setT | apply Cf.told | apply Cf.sendD | apply Cf.send | apply Cf.superv | apply Cf.start | apply Cf.stop | apply Cf.call | apply Cf.anew | apply Cf.goOn | apply Cf.open1 | apply Cf.end1 | apply Cf.inquire | apply Cf.unsure | apply Cf.count | apply Cf.ite | (refine Cf.setFl ?_ (Fk.clear ?_)) | (refine Cf.setFl ?_ (Fk.own ?_ _)) | (refine Cf.setFl ?_ (Fk.push ?_ _)) | exact Cf.f (by assumption))))
theorem Cf.sup3 (f : Fr) (n b : Int) : Cf (x.sup3 f n b) m k M := by
  unfold En.sup3
  dsimp only
  have h4 : Cf (if f.kind ≠ 2 then (x.stop 200).start 203 else (if x.state = 7 then x.stop 203 else x).start 200) m k M := by
    all_goals ((try dsimp only); (repeat' (with_reducible first | assumption | apply Cf.setState | apply Cf.setTei | apply Cf.setTries | apply Cf.setAsked | apply Cf.setUnits | apply Cf.setT | apply Cf.told | apply Cf.sendD | apply Cf.send | apply Cf.superv | apply Cf.start | apply Cf.stop | apply Cf.call | apply Cf.anew | apply Cf.goOn | apply Cf.open1 | apply Cf.end1 | apply Cf.inquire | apply Cf.unsure | apply Cf.count | apply Cf.ite | (refine Cf.setFl ?_ (Fk.clear ?_)) | (refine Cf.setFl ?_ (Fk.own ?_ _)) | (refine Cf.setFl ?_ (Fk.push ?_ _)) | exact Cf.f (by assumption))))
  generalize (if f.kind ≠ 2 then (x.stop 200).start 203 else (if x.state = 7 then x.stop 203 else x).start 200) = y at *
  have h5 : Cf (y.setFl y.fl.back) m k M := h4.setFl h4.f.back
  all_goals ((try dsimp only); (repeat' (with_reducible first | assumption | apply Cf.setState | apply Cf.setTei | apply Cf.setTries | apply Cf.setAsked | apply Cf.setUnits | apply Cf.setT | apply Cf.told | apply Cf.sendD | apply Cf.send | apply Cf.superv | apply Cf.start | apply Cf.stop | apply Cf.call | apply Cf.anew | apply Cf.goOn | apply Cf.open1 | apply Cf.end1 | apply Cf.inquire | apply Cf.unsure | apply Cf.count | apply Cf.ite | (refine Cf.setFl ?_ (Fk.clear ?_)) | (refine Cf.setFl ?_ (Fk.own ?_ _)) | (refine Cf.setFl ?_ (Fk.push ?_ _)) | exact Cf.f (by assumption))))
theorem Cf.supervised (f : Fr) : Cf (x.supervised f) m k M := by
  rw [sup_eq]
  unfold En.sup2
  have h1 := h.sup1 f.cmd f.pf
  generalize x.sup1 f.cmd f.pf = y at *
  have h2 := h1.setFl (h1.f.peer (f.kind == 2))
  exact (h2.setFl (h2.f.ack f.nr)).sup3 f _ _
theorem Cf.inf1 (f : Fr) (g : Int) : Cf (x.inf1 f g) m k M := by
  unfold En.inf1
  all_goals ((try dsimp only); (repeat' (with_reducible first | assumption | apply Cf.setState | apply Cf.setTei | apply Cf.setTries | apply Cf.setAsked | apply Cf.setUnits | apply Cf.setT | apply Cf.told | apply Cf.sendD | apply Cf.send | apply Cf.superv | apply Cf.start | apply Cf.stop | apply Cf.call | apply Cf.anew | apply Cf.goOn | apply Cf.open1 | apply Cf.end1 | apply Cf.inquire | apply Cf.unsure | apply Cf.count | apply Cf.ite | (refine Cf.setFl ?_ (Fk.clear ?_)) | (refine Cf.setFl ?_ (Fk.own ?_ _)) | (refine Cf.setFl ?_ (Fk.push ?_ _)) | exact Cf.f (by assumption))))
theorem Cf.inf3 (n b : Int) : Cf (x.inf3 n b) m k M := by
  unfold En.inf3
  all_goals ((try dsimp only); (repeat' (with_reducible first | assumption | apply Cf.setState | apply Cf.setTei | apply Cf.setTries | apply Cf.setAsked | apply Cf.setUnits | apply Cf.setT | apply Cf.told | apply Cf.sendD | apply Cf.send | apply Cf.superv | apply Cf.start | apply Cf.stop | apply Cf.call | apply Cf.anew | apply Cf.goOn | apply Cf.open1 | apply Cf.end1 | apply Cf.inquire | apply Cf.unsure | apply Cf.count | apply Cf.ite | (refine Cf.setFl ?_ (Fk.clear ?_)) | (refine Cf.setFl ?_ (Fk.own ?_ _)) | (refine Cf.setFl ?_ (Fk.push ?_ _)) | exact Cf.f (by assumption))))
theorem Cf.info (f : Fr) : Cf (x.info f) m k M := by
  rw [info_eq]
  unfold En.inf2
  have h1 := (h.setFl (h.f.come f.ns)).inf1 f (x.fl.come f.ns).2
  generalize (x.setFl (x.fl.come f.ns).1).inf1 f (x.fl.come f.ns).2 = y at *
  exact (h1.setFl (h1.f.ack f.nr)).inf3 _ _
theorem Cf.inOpen (f : Fr) : Cf (x.inOpen f) m k M := by
  have h1 := h.strange f
  have h2 := h.info f
  have h3 := h.supervised f
  unfold En.inOpen
  repeat' split
  all_goals ((try dsimp only); (repeat' (with_reducible first | assumption | apply Cf.setState | apply Cf.setTei | apply Cf.setTries | apply Cf.setAsked | apply Cf.setUnits | apply Cf.setT | apply Cf.told | apply Cf.sendD | apply Cf.send | apply Cf.superv | apply Cf.start | apply Cf.stop | apply Cf.call | apply Cf.anew | apply Cf.goOn | apply Cf.open1 | apply Cf.end1 | apply Cf.inquire | apply Cf.unsure | apply Cf.count | apply Cf.ite | (refine Cf.setFl ?_ (Fk.clear ?_)) | (refine Cf.setFl ?_ (Fk.own ?_ _)) | (refine Cf.setFl ?_ (Fk.push ?_ _)) | exact Cf.f (by assumption))))
theorem Cf.again (t : Int) (l : ByteArray) (g : Int) : Cf (x.again t l g) m k M := by
  unfold En.again
  repeat' split
  all_goals ((try dsimp only); (repeat' (with_reducible first | assumption | apply Cf.setState | apply Cf.setTei | apply Cf.setTries | apply Cf.setAsked | apply Cf.setUnits | apply Cf.setT | apply Cf.told | apply Cf.sendD | apply Cf.send | apply Cf.superv | apply Cf.start | apply Cf.stop | apply Cf.call | apply Cf.anew | apply Cf.goOn | apply Cf.open1 | apply Cf.end1 | apply Cf.inquire | apply Cf.unsure | apply Cf.count | apply Cf.ite | (refine Cf.setFl ?_ (Fk.clear ?_)) | (refine Cf.setFl ?_ (Fk.own ?_ _)) | (refine Cf.setFl ?_ (Fk.push ?_ _)) | exact Cf.f (by assumption))))
theorem cf_ask (a : Int) (d : ByteArray) : Cf (x.ask a d).1 m k M := by
  have h1 := h.establish
  have h2 := h.release
  have h3 := h.data d
  have h4 := h.unit d
  have h5 := h.askOwn (a == 4)
  unfold En.ask
  repeat' split
  all_goals first | exact h | exact Cf.done (by assumption)
theorem cf_frame (f : Fr) : Cf (x.frame f).1 m k M := by
  have h1 := h.inAssigned f
  have h2 := h.inConnecting f
  have h3 := h.inReleasing f
  have h4 := h.inOpen f
  unfold En.frame
  split
  · exact h
  · refine Cf.done ?_
    all_goals ((try dsimp only); (repeat' (with_reducible first | assumption | apply Cf.setState | apply Cf.setTei | apply Cf.setTries | apply Cf.setAsked | apply Cf.setUnits | apply Cf.setT | apply Cf.told | apply Cf.sendD | apply Cf.send | apply Cf.superv | apply Cf.start | apply Cf.stop | apply Cf.call | apply Cf.anew | apply Cf.goOn | apply Cf.open1 | apply Cf.end1 | apply Cf.inquire | apply Cf.unsure | apply Cf.count | apply Cf.ite | (refine Cf.setFl ?_ (Fk.clear ?_)) | (refine Cf.setFl ?_ (Fk.own ?_ _)) | (refine Cf.setFl ?_ (Fk.push ?_ _)) | exact Cf.f (by assumption))))
theorem cf_timeout (t : Int) : Cf (x.timeout t).1 m k M := by
  have hx := h.setT t false
  have h1 := hx.again 4 ⟨#[71]⟩ 3
  have h2 := hx.again 7 ⟨#[72]⟩ 4
  unfold En.timeout
  split
  · exact h
  · refine Cf.done ?_
    all_goals ((try dsimp only); (repeat' (with_reducible first | assumption | apply Cf.setState | apply Cf.setTei | apply Cf.setTries | apply Cf.setAsked | apply Cf.setUnits | apply Cf.setT | apply Cf.told | apply Cf.sendD | apply Cf.send | apply Cf.superv | apply Cf.start | apply Cf.stop | apply Cf.call | apply Cf.anew | apply Cf.goOn | apply Cf.open1 | apply Cf.end1 | apply Cf.inquire | apply Cf.unsure | apply Cf.count | apply Cf.ite | (refine Cf.setFl ?_ (Fk.clear ?_)) | (refine Cf.setFl ?_ (Fk.own ?_ _)) | (refine Cf.setFl ?_ (Fk.push ?_ _)) | exact Cf.f (by assumption))))
theorem cf_assign (t : Int) : Cf (x.assign t).1 m k M := by
  have hu : ∀ (l : List ByteArray) (y : En), Cf y m k M → Cf (l.foldl (fun y s => (y.unit s).1) y) m k M := fun l => by
    induction l with
    | nil => exact fun y hy => hy
    | cons s l ih => exact fun y hy => ih _ (hy.unit s)
  have h1 := hu x.units _ (((h.setTei t).setState 4).setUnits [])
  unfold En.assign
  split
  · exact h
  · split
    · exact h
    · refine Cf.done ?_
      all_goals ((try dsimp only); (repeat' (with_reducible first | assumption | apply Cf.setState | apply Cf.setTei | apply Cf.setTries | apply Cf.setAsked | apply Cf.setUnits | apply Cf.setT | apply Cf.told | apply Cf.sendD | apply Cf.send | apply Cf.superv | apply Cf.start | apply Cf.stop | apply Cf.call | apply Cf.anew | apply Cf.goOn | apply Cf.open1 | apply Cf.end1 | apply Cf.inquire | apply Cf.unsure | apply Cf.count | apply Cf.ite | (refine Cf.setFl ?_ (Fk.clear ?_)) | (refine Cf.setFl ?_ (Fk.own ?_ _)) | (refine Cf.setFl ?_ (Fk.push ?_ _)) | exact Cf.f (by assumption))))
theorem cf_remove : Cf x.remove.1 m k M := by
  unfold En.remove
  split
  · exact h
  · dsimp only
    refine Cf.setUnits (Cf.setState (Cf.setTei (Cf.done ?_) _) _) _
    all_goals ((try dsimp only); (repeat' (with_reducible first | assumption | apply Cf.setState | apply Cf.setTei | apply Cf.setTries | apply Cf.setAsked | apply Cf.setUnits | apply Cf.setT | apply Cf.told | apply Cf.sendD | apply Cf.send | apply Cf.superv | apply Cf.start | apply Cf.stop | apply Cf.call | apply Cf.anew | apply Cf.goOn | apply Cf.open1 | apply Cf.end1 | apply Cf.inquire | apply Cf.unsure | apply Cf.count | apply Cf.ite | (refine Cf.setFl ?_ (Fk.clear ?_)) | (refine Cf.setFl ?_ (Fk.own ?_ _)) | (refine Cf.setFl ?_ (Fk.push ?_ _)) | exact Cf.f (by assumption))))
end
theorem cf_new (k n : Int) : Cf (newEn k n) (max 1 (min n 32)) k 256 := ⟨rfl, ⟨rfl, rfl⟩⟩
end Go.Proofs.YtoophfokbioaaaaGreatDoor
