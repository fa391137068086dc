/- SourceGives: what effects there may be; how many of what there is. -/
import Derived.Test.YtbnbknabedgpcaaGivesB
namespace Go.Proofs.Ytbnbknabedgpcaa
open Go.RowKit

/-- effects whose TEIs are numbers, not too many -/
def EOk (l : List Ef) : Prop := l.length ≤ 1000 ∧ ∀ e ∈ l, kInt.ok e.tei
theorem EOk.nil : EOk [] := ⟨by simp, by simp⟩
theorem eok0 : kInt.ok 0 := kok 0 (by decide) (by decide)
theorem EOk.said (t r a : Int) : EOk [.said t r a] := ⟨by simp, fun e he => by simp at he; subst he; exact eok0⟩
theorem EOk.ask (x : Sr) (t : Int) (h : kInt.ok t) : EOk (x.ask t).2 := ⟨by simp [Sr.ask], fun e he => by simp [Sr.ask] at he; rcases he with rfl | rfl; exact eok0; exact h⟩
theorem EOk.remove (x : Sr) (t : Int) (h : kInt.ok t) : EOk (x.remove t).2 := by
  unfold Sr.remove
  constructor
  · simp only [List.length_append]
    have h1 : (if (mlook x.checks t).isSome = true then [Ef.of 4 t] else []).length ≤ 1 := by split <;> simp
    have h2 : (if (x.pool.free t).2 = true then [Ef.of 2 t] else []).length ≤ 1 := by split <;> simp
    simp
    omega
  · intro e he
    simp only [List.mem_append] at he
    rcases he with (he | he) | he
    · simp at he; subst he; exact eok0
    · split at he
      · simp at he; subst he; exact h
      · cases he
    · split at he
      · simp at he; subst he; exact h
      · cases he
theorem EOk.stray (x : Sr) (t : Int) : EOk (x.stray t) := by
  unfold Sr.stray
  split
  · exact EOk.nil
  · exact EOk.said _ _ _
theorem EOk.response (x : Sr) (t : Int) (h : kInt.ok t) : EOk (x.response t).2 := by
  unfold Sr.response
  split
  · exact EOk.stray x t
  · split
    · exact EOk.remove _ t h
    · exact EOk.nil
theorem EOk.check (x : Sr) (t : Int) (h : kInt.ok t) : EOk (x.check t).2.1 := by
  unfold Sr.check
  split
  · exact EOk.nil
  · split
    · exact EOk.nil
    · exact EOk.ask x t h
theorem EOk.audit (x : Sr) : EOk x.audit.2 := by
  constructor
  · have := upto_len x.pool 63
    simp [Sr.audit, auditE]
    omega
  · intro e he
    simp only [Sr.audit, auditE, List.mem_cons, List.mem_map] at he
    rcases he with rfl | ⟨i, hi, rfl⟩
    · exact eok0
    · have := upto_lt hi
      exact kok (64 + (i : Int)) (by omega) (by omega)
theorem EOk.cons {l : List Ef} (h : EOk l) (hl : l.length ≤ 900) (t r a : Int) : EOk (.said t r a :: l) := ⟨by simp; omega, fun e he => by simp only [List.mem_cons] at he; rcases he with rfl | he; exact eok0; exact h.2 e he⟩
theorem seek_tei : ∀ (k : Nat) (s : Pl), 0 ≤ (Pl.seek k s).2.1 ∧ (Pl.seek k s).2.1 ≤ 126
  | 0, s => by simp [Pl.seek]
  | k + 1, s => by
    unfold Pl.seek
    split
    · exact seek_tei k _
    · have : (s.last + 1) % 63 < 63 := Nat.mod_lt _ (by decide)
      simp only []
      omega
theorem EOk.request (x : Sr) (m : Msg) : EOk (x.request m).2 := by
  unfold Sr.request
  split
  · exact EOk.said _ _ _
  · split
    · have := seek_tei 63 x.pool
      exact ⟨by simp, fun e he => by simp at he; rcases he with rfl | rfl; exact eok0; exact kok _ (by simp [Ef.of]; omega) (by simp [Ef.of]; omega)⟩
    · refine (EOk.audit _).cons ?_ _ _ _
      have := upto_len (Pl.seek 63 x.pool).1 63
      simp [Sr.audit, auditE]
      omega
theorem EOk.message (x : Sr) (m : Msg) (h : kInt.ok m.ai) : EOk (x.message m).2 := by
  unfold Sr.message
  split
  · exact EOk.nil
  split
  · exact EOk.request x m
  split
  · exact EOk.response x _ h
  split
  · split
    · exact EOk.check x _ h
    · exact EOk.stray _ _
  · exact EOk.nil
theorem EOk.removeP (x : Sr) (t : Int) (h : kInt.ok t) : EOk (x.removeP t).2.1 := by
  unfold Sr.removeP
  split
  · exact EOk.nil
  · exact EOk.remove x t h
theorem EOk.timeout (x : Sr) (t : Int) (h : kInt.ok t) : EOk (x.timeout t).2 := by
  unfold Sr.timeout
  split
  · exact EOk.nil
  · split
    · exact EOk.ask x t h
    · split
      · exact EOk.nil
      · exact ⟨by simp, fun e he => by simp at he; subst he; exact h⟩

/-- numbers from a on, all different: no more than there are -/
theorem pigeon : ∀ (n : Nat) (a : Int) (l : List Int), l.Nodup → (∀ t ∈ l, a ≤ t ∧ t < a + n) → l.length ≤ n
  | 0, a, l, _, h => by
    cases l with
    | nil => simp
    | cons t l => have := h t (by simp); omega
  | n + 1, a, l, hn, h => by
    have h1 := pigeon n a (l.filter fun t => decide (t ≠ a + n)) (List.filter_sublist.nodup hn) (fun t ht => by
      have := List.mem_filter.1 ht
      have h2 := h t this.1
      have h3 : t ≠ a + n := by simpa using this.2
      omega)
    have h2 : (l.filter fun t => decide (t = a + n)).length ≤ 1 := by
      have hd : (l.filter fun t => decide (t = a + (n : Int))).Nodup := List.filter_sublist.nodup hn
      have ha : ∀ t ∈ l.filter (fun t => decide (t = a + (n : Int))), t = a + n := fun t ht => by simpa using (List.mem_filter.1 ht).2
      generalize l.filter (fun t => decide (t = a + (n : Int))) = m at *
      match m, hd, ha with
      | [], _, _ => simp
      | [_], _, _ => simp
      | x :: y :: m, hd, ha =>
        have e1 := ha x (by simp)
        have e2 := ha y (by simp)
        simp only [List.nodup_cons] at hd
        exact absurd (by rw [e1, e2]; simp) hd.1
    have h3 := List.length_eq_countP_add_countP (fun t : Int => decide (t = a + n)) (l := l)
    rw [List.countP_eq_length_filter, List.countP_eq_length_filter] at h3
    have h4 : (l.filter fun t => decide (t ≠ a + (n : Int))).length = (l.filter fun t => decide ¬ decide (t = a + (n : Int)) = true).length := by
      congr 1
      refine List.filter_congr fun t _ => ?_
      simp
    omega
theorem checks_len {x : Sr} (ok : x.Ok) (hn : (x.checks.map (·.1)).Nodup) : x.checks.length ≤ 63 := by
  have := pigeon 63 64 (x.checks.map (·.1)) hn (fun t ht => by
    obtain ⟨p, hp, rfl⟩ := List.mem_map.1 ht
    have := ok.all p hp
    omega)
  simpa using this
end Go.Proofs.Ytbnbknabedgpcaa
