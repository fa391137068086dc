/- What an entity tells of a frame; what is refused changes nothing. -/
import Derived.Test.YtoophfokbioaaaaGreatDoorEntOkB
namespace Go.Proofs.YtoophfokbioaaaaGreatDoor
open Go.RowKit

/-- each payload that is told is as P says -/
def Kp (P : Fx → Prop) (y : En) : Prop := ∀ z ∈ y.out, (z.kind ≠ 5 ∧ z.kind ≠ 6) ∨ P z
section
variable {P : Fx → Prop} {x : En}
theorem Kp.tell (h : Kp P x) (f : Fx) (hf : (f.kind ≠ 5 ∧ f.kind ≠ 6) ∨ P f) : Kp P (x.tell f) := fun z hz => by
  rcases List.mem_append.1 (show z ∈ x.out ++ [f] from hz) with h1 | h1
  · exact h z h1
  · rw [List.mem_singleton.1 h1]
    exact hf
theorem Kp.setFl (h : Kp P x) (f : Fl) : Kp P (x.setFl f) := h
theorem Kp.setState (h : Kp P x) (f : Int) : Kp P (x.setState f) := h
theorem Kp.setTries (h : Kp P x) (f : Int) : Kp P (x.setTries f) := h
theorem Kp.setAsked (h : Kp P x) (f : Bool) : Kp P (x.setAsked f) := h
theorem Kp.setT (h : Kp P x) (k : Int) (f : Bool) : Kp P (x.setT k f) := by unfold Kp; rw [En.setT_out]; exact h
theorem Kp.told (h : Kp P x) {k : Int} {d : ByteArray} (hk : k ≠ 5 ∧ k ≠ 6) : Kp P (x.told k d) := h.tell _ (.inl hk)
theorem Kp.sendD (h : Kp P x) (k : Int) (c p : Bool) (i : Int) (d : ByteArray) : Kp P (x.sendD k c p i d) := h.tell _ (.inl ⟨show (0 : Int) ≠ 5 by decide, show (0 : Int) ≠ 6 by decide⟩)
theorem Kp.send (h : Kp P x) (k : Int) (c p : Bool) : Kp P (x.send k c p) := h.sendD _ _ _ _ _
theorem Kp.superv (h : Kp P x) (c p : Bool) : Kp P (x.superv c p) := h.send _ _ _
theorem Kp.start (h : Kp P x) (k : Int) : Kp P (x.start k) := (h.setT k true).tell _ (.inl ⟨show (9 : Int) ≠ 5 by decide, show (9 : Int) ≠ 6 by decide⟩)
theorem Kp.stop (h : Kp P x) (k : Int) : Kp P (x.stop k) := by
  unfold En.stop
  split
  · exact (h.setT k false).tell _ (.inl ⟨show (10 : Int) ≠ 5 by decide, show (10 : Int) ≠ 6 by decide⟩)
  · exact h
theorem Kp.call (h : Kp P x) : Kp P x.call := ((((h.setTries 0).send 4 true true).stop 203).start 200).setState 5
theorem Kp.anew (h : Kp P x) (l : ByteArray) : Kp P (x.anew l) := ((h.told (k := 7) (d := l) (by decide)).setAsked false).call
theorem Kp.take1 (h : Kp P x) : Kp P x.take1 := by
  unfold En.take1
  dsimp only
  split
  · exact (h.setFl _).sendD _ _ _ _ _
  · exact (((h.setFl _).sendD _ _ _ _ _).stop 203).start 200
theorem Kp.goOnK : ∀ (n : Nat) {x : En}, Kp P x → Kp P (En.goOnK n x)
  | 0, _, h => h
  | n + 1, x, h => by
    unfold En.goOnK
    split
    · exact Kp.goOnK n h.take1
    · exact h
theorem Kp.goOn (h : Kp P x) : Kp P x.goOn := by
  unfold En.goOn
  split
  · exact h.goOnK 128
  · exact h
theorem Kp.open1 (h : Kp P x) : Kp P x.open1 := ((((h.setFl _).stop 200).start 203).setState 7).goOn
theorem Kp.end1 (h : Kp P x) : Kp P x.end1 := (((h.setFl _).stop 200).stop 203).setState 4
theorem Kp.inquire (h : Kp P x) : Kp P x.inquire := (h.superv true true).start 200
theorem Kp.unsure (h : Kp P x) : Kp P x.unsure := by
  unfold En.unsure
  split
  · exact (h.setFl _).told (by decide)
  · exact h
theorem Kp.count (h : Kp P x) (k : Int) : Kp P (x.count k) := by
  unfold En.count
  split
  · exact (h.stop 200).start 203
  · split
    · exact h.start 200
    · exact h
theorem Kp.ite {y : En} {c : Prop} [Decidable c] (h : c → Kp P x) (h2 : ¬ c → Kp P y) : Kp P (if c then x else y) := by
  split
  · exact h ‹_›
  · exact h2 ‹_›
end
section
variable {P : Fx → Prop} {x : En} (h : Kp P x)
include h
theorem Kp.strange (f : Fr) : Kp P (x.strange f) := h.told (by decide)
theorem Kp.inAssigned (f : Fr) : Kp P (x.inAssigned f) := by
  have := h.strange f
  unfold En.inAssigned
  all_goals ((try dsimp only); (repeat' (with_reducible first | assumption | intro _ | apply Kp.setFl | apply Kp.setState | apply Kp.setTries | apply Kp.setAsked | apply Kp.setT | (refine Kp.told ?_ (by decide)) | apply Kp.sendD | apply Kp.send | apply Kp.superv | apply Kp.start | apply Kp.stop | apply Kp.call | apply Kp.anew | apply Kp.goOn | apply Kp.open1 | apply Kp.end1 | apply Kp.inquire | apply Kp.unsure | apply Kp.count | apply Kp.ite)))
theorem Kp.inConnecting (f : Fr) : Kp P (x.inConnecting f) := by
  unfold En.inConnecting
  all_goals ((try dsimp only); (repeat' (with_reducible first | assumption | intro _ | apply Kp.setFl | apply Kp.setState | apply Kp.setTries | apply Kp.setAsked | apply Kp.setT | (refine Kp.told ?_ (by decide)) | apply Kp.sendD | apply Kp.send | apply Kp.superv | apply Kp.start | apply Kp.stop | apply Kp.call | apply Kp.anew | apply Kp.goOn | apply Kp.open1 | apply Kp.end1 | apply Kp.inquire | apply Kp.unsure | apply Kp.count | apply Kp.ite)))
theorem Kp.inReleasing (f : Fr) : Kp P (x.inReleasing f) := by
  unfold En.inReleasing
  all_goals ((try dsimp only); (repeat' (with_reducible first | assumption | intro _ | apply Kp.setFl | apply Kp.setState | apply Kp.setTries | apply Kp.setAsked | apply Kp.setT | (refine Kp.told ?_ (by decide)) | apply Kp.sendD | apply Kp.send | apply Kp.superv | apply Kp.start | apply Kp.stop | apply Kp.call | apply Kp.anew | apply Kp.goOn | apply Kp.open1 | apply Kp.end1 | apply Kp.inquire | apply Kp.unsure | apply Kp.count | apply Kp.ite)))
theorem Kp.supervised (f : Fr) : Kp P (x.supervised f) := by
  unfold En.supervised
  all_goals ((try dsimp only); (repeat' (with_reducible first | assumption | intro _ | apply Kp.setFl | apply Kp.setState | apply Kp.setTries | apply Kp.setAsked | apply Kp.setT | (refine Kp.told ?_ (by decide)) | apply Kp.sendD | apply Kp.send | apply Kp.superv | apply Kp.start | apply Kp.stop | apply Kp.call | apply Kp.anew | apply Kp.goOn | apply Kp.open1 | apply Kp.end1 | apply Kp.inquire | apply Kp.unsure | apply Kp.count | apply Kp.ite)))
theorem Kp.info (f : Fr) (hP : (x.fl.come f.ns).2 = 0 → P (.of 5 f.info)) : Kp P (x.info f) := by
  have h5 : (x.fl.come f.ns).2 = 0 → Kp P ((x.setFl (x.fl.come f.ns).1).told 5 f.info) := fun e => (h.setFl _).tell _ (.inr (hP e))
  unfold En.info
  dsimp only
  have h6 : Kp P (if (x.fl.come f.ns).2 = 0 then ((x.setFl (x.fl.come f.ns).1).told 5 f.info).superv false f.pf else if (x.fl.come f.ns).2 = 1 then (x.setFl (x.fl.come f.ns).1).send 3 false f.pf else if f.pf = true then (x.setFl (x.fl.come f.ns).1).superv false true else (x.setFl (x.fl.come f.ns).1)) := by
    refine Kp.ite (fun e => (h5 e).superv _ _) (fun _ => ?_)
    all_goals ((try dsimp only); (repeat' (with_reducible first | assumption | intro _ | apply Kp.setFl | apply Kp.setState | apply Kp.setTries | apply Kp.setAsked | apply Kp.setT | (refine Kp.told ?_ (by decide)) | apply Kp.sendD | apply Kp.send | apply Kp.superv | apply Kp.start | apply Kp.stop | apply Kp.call | apply Kp.anew | apply Kp.goOn | apply Kp.open1 | apply Kp.end1 | apply Kp.inquire | apply Kp.unsure | apply Kp.count | apply Kp.ite)))
  generalize (if (x.fl.come f.ns).2 = 0 then ((x.setFl (x.fl.come f.ns).1).told 5 f.info).superv false f.pf else if (x.fl.come f.ns).2 = 1 then (x.setFl (x.fl.come f.ns).1).send 3 false f.pf else if f.pf = true then (x.setFl (x.fl.come f.ns).1).superv false true else (x.setFl (x.fl.come f.ns).1)) = y at *
  all_goals ((try dsimp only); (repeat' (with_reducible first | assumption | intro _ | apply Kp.setFl | apply Kp.setState | apply Kp.setTries | apply Kp.setAsked | apply Kp.setT | (refine Kp.told ?_ (by decide)) | apply Kp.sendD | apply Kp.send | apply Kp.superv | apply Kp.start | apply Kp.stop | apply Kp.call | apply Kp.anew | apply Kp.goOn | apply Kp.open1 | apply Kp.end1 | apply Kp.inquire | apply Kp.unsure | apply Kp.count | apply Kp.ite)))
theorem Kp.inOpen (f : Fr) (hP : f.kind = 0 → (x.fl.come f.ns).2 = 0 → P (.of 5 f.info)) : Kp P (x.inOpen f) := by
  have h1 := h.strange f
  have h2 := fun e => h.info f (hP e)
  have h3 := h.supervised f
  unfold En.inOpen
  all_goals ((try dsimp only); (repeat' (with_reducible first | assumption | intro _ | apply Kp.setFl | apply Kp.setState | apply Kp.setTries | apply Kp.setAsked | apply Kp.setT | (refine Kp.told ?_ (by decide)) | apply Kp.sendD | apply Kp.send | apply Kp.superv | apply Kp.start | apply Kp.stop | apply Kp.call | apply Kp.anew | apply Kp.goOn | apply Kp.open1 | apply Kp.end1 | apply Kp.inquire | apply Kp.unsure | apply Kp.count | apply Kp.ite)))
end
theorem come_0 {s : Fl} {n : Int} (h : (s.come n).2 = 0) : n % 128 = s.vr := by
  unfold Fl.come at h
  split at h
  · exact absurd (show (3 : Int) = 0 from h) (by decide)
  · split at h
    · assumption
    · split at h
      · exact absurd (show (2 : Int) = 0 from h) (by decide)
      · exact absurd (show (1 : Int) = 0 from h) (by decide)
/-- what is told of a frame -/
def TellP (x : En) (f : Fr) (z : Fx) : Prop := (z.kind = 5 → 7 ≤ x.state ∧ z.data = f.info ∧ f.kind = 0 ∧ f.ns % 128 = x.fl.vr) ∧ (z.kind = 6 → 0 ≤ x.tei ∧ z.data = f.info)
theorem frame_tells {x : En} (ok : x.Ok) (ho : x.out = []) (f : Fr) : ∀ z ∈ (x.frame f).2, TellP x f z := by
  have h0 : Kp (TellP x f) x := fun z hz => by rw [ho] at hz; cases hz
  have s8 := ok.s8
  unfold En.frame
  split
  · exact fun z hz => by cases hz
  · rename_i hn
    have ht : 0 ≤ x.tei := by omega
    have h4 := ok.tei.1 ht
    have h1 := h0.inAssigned f
    have h2 := h0.inConnecting f
    have h3 := h0.inReleasing f
    have key : Kp (TellP x f) (if f.kind = 6 then x.told 6 f.info else if x.state = 4 then x.inAssigned f else if x.state = 5 then x.inConnecting f else if x.state = 6 then x.inReleasing f else x.inOpen f) := by
      refine Kp.ite (fun _ => h0.tell _ (.inr ⟨fun e => absurd (show (6 : Int) = 5 from e) (by decide), fun _ => ⟨ht, rfl⟩⟩)) (fun _ => ?_)
      refine Kp.ite (fun _ => h1) (fun n4 => ?_)
      refine Kp.ite (fun _ => h2) (fun n5 => ?_)
      refine Kp.ite (fun _ => h3) (fun n6 => ?_)
      refine h0.inOpen f (fun k0 hc => ⟨fun _ => ⟨by omega, rfl, k0, come_0 hc⟩, fun e => absurd (show (5 : Int) = 6 from e) (by decide)⟩)
    intro z hz
    rcases key z hz with e | e
    · exact ⟨fun h => absurd h e.1, fun h => absurd h e.2⟩
    · exact e
/-- what is refused changes nothing -/
theorem ask_bad {x : En} (ho : x.out = []) (a : Int) (d : ByteArray) (h : (x.ask a d).2.2 ≠ 0) : (x.ask a d).1 = x := by
  have hd : x.done = x := by
    obtain ⟨a, b, c, d, e, f, g, u, k, o⟩ := x
    simp only [] at ho
    subst ho
    rfl
  revert h
  unfold En.ask
  split
  · exact fun _ => rfl
  · split
    · exact fun _ => rfl
    · dsimp only
      intro h
      have key : ∀ z : En × Int, z.2 ≠ 0 → (z.2 ≠ 0 → z.1 = x) → z.1.done = x := fun z h1 h2 => by rw [h2 h1, hd]
      refine key _ h ?_
      split
      · unfold En.establish
        repeat' split
        all_goals first | exact fun e => absurd rfl e | exact fun _ => rfl
      · split
        · unfold En.release
          repeat' split
          all_goals first | exact fun e => absurd rfl e | exact fun _ => rfl
        · split
          · unfold En.data
            split
            · exact fun _ => rfl
            · split
              · exact fun e => absurd rfl e
              · rename_i hne
                intro _
                have hq : (x.fl.q.push d).1 = x.fl.q := by
                  revert hne
                  unfold Q.push
                  repeat' split
                  all_goals first | exact fun _ => rfl | exact fun e => absurd rfl e
                show x.setFl (Fl.withQ x.fl (x.fl.q.push d).1) = x
                rw [hq]
                rfl
          · split
            · unfold En.unit
              repeat' split
              all_goals first | exact fun e => absurd rfl e | exact fun _ => rfl
            · unfold En.own
              repeat' split
              all_goals first | exact fun e => absurd rfl e | exact fun _ => rfl
end Go.Proofs.YtoophfokbioaaaaGreatDoor
