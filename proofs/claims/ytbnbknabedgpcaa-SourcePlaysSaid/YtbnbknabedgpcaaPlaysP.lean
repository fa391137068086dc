/- SourcePlays: how many checks there are, and what they are: plain law. -/
import Derived.Test.YtbnbknabedgpcaaAct
import Derived.Test.YtbnbknabedgpcaaWSourceStrays
import Derived.Laws.Bits128
namespace Go.Proofs.Ytbnbknabedgpcaa
open Go.RowKit

def cntC (c : CN) (k : Nat) : Nat := ((List.range k).filter fun i => decide (0 < (c i).1)).length
theorem cntC_le (c : CN) (k : Nat) : cntC c k ≤ k := by
  unfold cntC
  exact Nat.le_trans (List.length_filter_le _ _) (by simp)
theorem cntC_succ (c : CN) (k : Nat) : cntC c (k + 1) = cntC c k + (if 0 < (c k).1 then 1 else 0) := by
  unfold cntC
  rw [List.range_succ, List.filter_append, List.length_append]
  by_cases h : 0 < (c k).1
  · rw [if_pos h, List.filter_cons_of_pos (by simpa using h)]; rfl
  · rw [if_neg h, List.filter_cons_of_neg (by simpa using h)]; rfl
theorem cntC_all {x : Sr} (h : RSOk x) : cntC (chkN x.checks) 128 = x.checks.length := by
  unfold cntC
  have e1 : x.checks.length = (x.checks.map (·.1)).length := by simp
  have e2 : ((List.range 128).filter fun i => decide (0 < (chkN x.checks i).1)).length = (((List.range 128).filter fun i => decide (0 < (chkN x.checks i).1)).map fun i : Nat => (i : Int)).length := by simp
  rw [e1, e2]
  refine same_len ?_ h.nd fun a => ?_
  · refine List.Pairwise.map _ (fun a b hab => ?_) (List.nodup_range.filter _)
    intro e
    exact hab (by omega)
  · rw [← look_iff]
    constructor
    · intro ha
      obtain ⟨i, hi, rfl⟩ := List.mem_map.1 ha
      have h2 := (List.mem_filter.1 hi).2
      simp only [decide_eq_true_eq] at h2
      unfold chkN at h2
      cases hl : mlook x.checks (i : Int) with
      | none => rw [hl] at h2; simp at h2
      | some c => rfl
    · intro ha
      cases hl : mlook x.checks a with
      | none => rw [hl] at ha; cases ha
      | some c =>
        have h1 := h.rng hl
        have h2 := h.pos hl
        refine List.mem_map.2 ⟨a.toNat, List.mem_filter.2 ⟨List.mem_range.2 (by omega), ?_⟩, by omega⟩
        have e : ((a.toNat : Nat) : Int) = a := by omega
        unfold chkN
        rw [e, hl]
        simpa using h2
theorem chk_at {x : Sr} (h : RSOk x) {j : Nat} {c : Chk} (hc : x.chks[j]? = some c) : ∃ i : Nat, i < 128 ∧ c.tei = (i : Int) ∧ chkN x.checks i = (c.asked, c.ans) := by
  have hm := List.mem_of_getElem? hc
  unfold Sr.chks at hm
  obtain ⟨t, ht, rfl⟩ := List.mem_map.1 hm
  have ht2 := (List.mergeSort_perm _ _).mem_iff.1 ht
  have hs := (look_iff _ _).2 ht2
  cases hl : mlook x.checks t with
  | none => rw [hl] at hs; cases hs
  | some c =>
    have h1 := h.rng hl
    have h2 := h.same hl
    have e : ((t.toNat : Nat) : Int) = t := by omega
    refine ⟨t.toNat, by omega, by simp only [Option.getD_some]; omega, ?_⟩
    unfold chkN
    rw [e, hl]
    rfl
theorem and127 {i : Nat} (h : i < 128) : bits .and .i64 (i : Int) 127 = (i : Int) := by rw [i64_and127]; omega
end Go.Proofs.Ytbnbknabedgpcaa
