/- The entity: establish, release, data. -/
import Derived.Test.YtoophfokbioaaaaGreatDoorEntF
namespace Go.Proofs.YtoophfokbioaaaaGreatDoor
open Go.RowKit

theorem En.up_iff (x : En) : x.up = true ↔ x.state = 7 ∨ x.state = 8 := by simp [En.up]

/-! establish -/
theorem e_establish (e : Nat) (x : En) (ok : x.fl.Ok) (hl : x.out.length ≤ 99980) (w0 w : World) (R : HP) (h : St w0 w (EnAt e x * R)) :
    Calls Tryz.prog 36 #[ptr e] w fun r w' => r = .returned (.int .i64 x.establish.2) ∧ St w0 w' (EnAt e x.establish.1 * R) := by
  have c1 := h.e_c1
  have f := h.e_fr
  unfold En.establish
  by_cases s1 : x.state = 1
  · rw [if_pos s1]
    rw [s1] at c1
    have h2 := h.e_set_state 3
    go_enter Tryz.func36, Tryz.ntmps36
    go_wp2_with fail
    refine (e_told e (x.setState 3) 8 noStr (show x.out.length ≤ 100000 by omega) w0 _ R h2).mono ?_
    rintro r w1 ⟨rfl, h3⟩
    go_wp2
    go_ret
    exact ⟨rfl, h3⟩
  rw [if_neg s1]
  by_cases s2 : x.state = 2
  · rw [if_pos s2]
    rw [s2] at c1
    have h2 := h.e_set_state 3
    go_enter Tryz.func36, Tryz.ntmps36
    go_wp2
    go_ret
    exact ⟨rfl, h2⟩
  rw [if_neg s2]
  by_cases s6 : x.state = 6
  · rw [if_pos s6]
    rw [s6] at c1
    go_enter Tryz.func36, Tryz.ntmps36
    go_wp2
    go_ret
    exact ⟨rfl, h⟩
  rw [if_neg s6]
  by_cases s5 : x.state = 5
  · rw [if_pos s5]
    rw [s5] at c1
    obtain ⟨fp, R', c7, hf, hb⟩ := h.e_fl
    go_enter Tryz.func36, Tryz.ntmps36
    go_wp2_with fail
    refine (f_clear fp x.fl w0 w R' hf ok).mono ?_
    rintro r w1 ⟨rfl, h2⟩
    have h3 := hb _ _ h2
    have f3 := h3.e_fr
    have c4 := h3.e_c4
    have h4 := h3.e_set_asked true
    clear hb hf h2
    go_wp2
    go_ret
    exact ⟨rfl, h4⟩
  rw [if_neg s5]
  by_cases s78 : x.state = 7 ∨ x.state = 8
  · rw [if_pos s78]
    rcases s78 with s7 | s7
    all_goals
      rw [s7] at c1
      obtain ⟨fp, R', c7, hf, hb⟩ := h.e_fl
      go_enter Tryz.func36, Tryz.ntmps36
      go_wp2_with fail
      refine (f_clear fp x.fl w0 w R' hf ok).mono ?_
      rintro r w1 ⟨rfl, h2⟩
      have h3 := hb _ _ h2
      have f3 := h3.e_fr
      have c4 := h3.e_c4
      have h4 := h3.e_set_asked true
      clear hb hf h2
      go_wp2_with fail
      refine (e_call e ((x.setFl x.fl.clear).setAsked true) ok.clear (show x.out.length ≤ 99990 by omega) w0 _ R h4).mono ?_
      rintro r w2 ⟨rfl, h5⟩
      clear c4 f3 h3 h4 c7 h
      go_wp2
      go_ret
      exact ⟨rfl, h5⟩
  rw [if_neg s78]
  by_cases s4 : x.state = 4
  · rw [if_pos s4]
    rw [s4] at c1
    have c4 := h.e_c4
    have h2 := h.e_set_asked true
    go_enter Tryz.func36, Tryz.ntmps36
    go_wp2_with fail
    refine (e_call e (x.setAsked true) ok (show x.out.length ≤ 99990 by omega) w0 _ R h2).mono ?_
    rintro r w2 ⟨rfl, h5⟩
    clear c4 f c1 h h2
    go_wp2
    go_ret
    exact ⟨rfl, h5⟩
  rw [if_neg s4]
  have b1 : (x.state == 1) = false := by simpa using s1
  have b2 : (x.state == 2) = false := by simpa using s2
  have b4 : (x.state == 4) = false := by simpa using s4
  have b5 : (x.state == 5) = false := by simpa using s5
  have b6 : (x.state == 6) = false := by simpa using s6
  have b7 : (x.state == 7) = false := by simpa using fun e => s78 (.inl e)
  have b8 : (x.state == 8) = false := by simpa using fun e => s78 (.inr e)
  go_enter Tryz.func36, Tryz.ntmps36
  go_wp2
  go_ret
  exact ⟨rfl, h⟩

/-! release -/
theorem e_release (e : Nat) (x : En) (ok : x.fl.Ok) (hl : x.out.length ≤ 99980) (w0 w : World) (R : HP) (h : St w0 w (EnAt e x * R)) :
    Calls Tryz.prog 37 #[ptr e] w fun r w' => r = .returned (.int .i64 x.release.2) ∧ St w0 w' (EnAt e x.release.1 * R) := by
  have c1 := h.e_c1
  have hu := e_up e x w0 w R h
  unfold En.release
  by_cases s4 : x.state = 4
  · rw [if_pos s4]
    rw [s4] at c1
    go_enter Tryz.func37, Tryz.ntmps37
    go_wp2_with fail
    refine (e_told e x 4 noStr (by omega) w0 _ R h).mono ?_
    rintro r w1 ⟨rfl, h3⟩
    go_wp2
    go_ret
    exact ⟨rfl, h3⟩
  rw [if_neg s4]
  have b4 : (x.state == 4) = false := by simpa using s4
  cases hup : x.up with
  | false =>
    rw [hup] at hu
    rw [if_neg (by simp)]
    go_enter Tryz.func37, Tryz.ntmps37
    go_wp2_with fail
    refine hu.mono ?_
    rintro r w1 ⟨rfl, rfl⟩
    go_wp2
    go_ret
    exact ⟨rfl, h⟩
  | true =>
    rw [hup] at hu
    rw [if_pos rfl]
    obtain ⟨fp, R', c7, hf, hb⟩ := h.e_fl
    have hcl := f_clear fp x.fl w0 w R' hf ok
    have l1 : (((x.setFl x.fl.clear).setTries 0).send 7 true true).out.length = x.out.length + 1 := En.send_len ((x.setFl x.fl.clear).setTries 0) 7 true true
    have l2 := En.stop_len (((x.setFl x.fl.clear).setTries 0).send 7 true true) 203
    go_enter Tryz.func37, Tryz.ntmps37
    go_wp2_with fail
    refine hu.mono ?_
    rintro r w1 ⟨rfl, rfl⟩
    go_wp2_with fail
    refine hcl.mono ?_
    rintro r w2 ⟨rfl, h2⟩
    have h3 := hb _ _ h2
    have f3 := h3.e_fr
    have c3 := h3.e_c3
    have h4 := h3.e_set_tries 0
    clear hb hf h2 hcl hu h c7 c1
    go_wp2_with fail
    refine (e_send e ((x.setFl x.fl.clear).setTries 0) 7 true true ok.clear (show x.out.length ≤ 100000 by omega) w0 _ R h4).mono ?_
    rintro r w3 ⟨rfl, h5⟩
    clear h3 h4 f3 c3
    go_wp2_with fail
    refine (e_stop e _ 203 (.inr rfl) (by omega) w0 _ R h5).mono ?_
    rintro r w4 ⟨rfl, h6⟩
    go_wp2_with fail
    refine (e_start e _ 200 (.inl rfl) (by omega) w0 _ R h6).mono ?_
    rintro r w5 ⟨rfl, h7⟩
    have f7 := h7.e_fr
    have c1 := h7.e_c1
    have h8 := h7.e_set_state 6
    go_wp2
    go_ret
    exact ⟨rfl, h8⟩

/-! data -/
theorem e_data (e : Nat) (x : En) (s : ByteArray) (ok : x.fl.Ok) (hl : x.out.length ≤ 98990) (w0 w : World) (R : HP) (h : St w0 w (EnAt e x * R)) :
    Calls Tryz.prog 38 #[ptr e, .string s] w fun r w' => r = .returned (.int .i64 (x.data s).2) ∧ St w0 w' (EnAt e (x.data s).1 * R) := by
  have c1 := h.e_c1
  have c4 := h.e_c4
  have hu := e_up e x w0 w R h
  have hmay : (x.up = false ∧ (x.state ≠ 5 ∨ x.asked = true)) ∨ (x.up = true ∨ (x.up = false ∧ x.state = 5 ∧ x.asked = false)) := by
    cases x.up <;> cases x.asked <;> by_cases h5 : x.state = 5 <;> simp [h5]
  unfold En.data
  rcases hmay with hno | hyes
  · rw [if_pos hno]
    obtain ⟨hup, hno⟩ := hno
    rw [hup] at hu
    by_cases s5 : x.state = 5
    · have ha : x.asked = true := by rcases hno with h' | h'; exact absurd s5 h'; exact h'
      rw [s5] at c1
      rw [ha] at c4
      go_enter Tryz.func38, Tryz.ntmps38
      go_wp2_with fail
      refine hu.mono ?_
      rintro r w1 ⟨rfl, rfl⟩
      go_wp2
      go_ret
      exact ⟨rfl, h⟩
    · have b5 : (x.state != 5) = true := by simpa using s5
      have b6 : (x.state == 5) = false := by simpa using s5
      go_enter Tryz.func38, Tryz.ntmps38
      go_wp2_with fail
      refine hu.mono ?_
      rintro r w1 ⟨rfl, rfl⟩
      go_wp2
      go_ret
      exact ⟨rfl, h⟩
  · rw [if_neg (by rintro ⟨a, b⟩; rcases hyes with h' | ⟨_, h', h2'⟩; rw [a] at h'; cases h'; rcases b with b | b; exact b h'; rw [b] at h2'; cases h2')]
    obtain ⟨fp, R', c7, hf, hb⟩ := h.e_fl
    have hp := f_push fp x.fl s w0 w R' hf ok
    have okp := ok.push s
    generalize x.fl.q.push s = pu at *
    obtain ⟨q', cd⟩ := pu
    simp only [] at hp okp ⊢
    by_cases hc : cd = 0
    · subst hc
      rw [if_pos rfl]
      rcases hyes with hup | ⟨hup, s5, ha⟩
      · rw [hup] at hu
        go_enter Tryz.func38, Tryz.ntmps38
        go_wp2_with fail
        refine hu.mono ?_
        rintro r w1 ⟨rfl, rfl⟩
        go_wp2_with fail
        refine hp.mono ?_
        rintro r w2 ⟨rfl, h2⟩
        have h3 := hb _ _ h2
        clear hb hf h2 hp hu h c7 c1 c4
        go_wp2_with fail
        refine (e_goOn e (x.setFl (Fl.withQ x.fl q')) okp (show x.out.length ≤ 99000 by omega) w0 _ R h3).mono ?_
        rintro r w3 ⟨rfl, h4⟩
        go_wp2
        go_ret
        exact ⟨rfl, h4⟩
      · rw [hup] at hu
        rw [s5] at c1
        rw [ha] at c4
        go_enter Tryz.func38, Tryz.ntmps38
        go_wp2_with fail
        refine hu.mono ?_
        rintro r w1 ⟨rfl, rfl⟩
        go_wp2_with fail
        refine hp.mono ?_
        rintro r w2 ⟨rfl, h2⟩
        have h3 := hb _ _ h2
        clear hb hf h2 hp hu h c7 c1 c4
        go_wp2_with fail
        refine (e_goOn e (x.setFl (Fl.withQ x.fl q')) okp (show x.out.length ≤ 99000 by omega) w0 _ R h3).mono ?_
        rintro r w3 ⟨rfl, h4⟩
        go_wp2
        go_ret
        exact ⟨rfl, h4⟩
    · rw [if_neg hc]
      have bc : (cd == 0) = false := by simpa using hc
      rcases hyes with hup | ⟨hup, s5, ha⟩
      · rw [hup] at hu
        go_enter Tryz.func38, Tryz.ntmps38
        go_wp2_with fail
        refine hu.mono ?_
        rintro r w1 ⟨rfl, rfl⟩
        go_wp2_with fail
        refine hp.mono ?_
        rintro r w2 ⟨rfl, h2⟩
        have h3 := hb _ _ h2
        clear hb hf h2 hp hu h c7 c1 c4
        go_wp2
        go_ret
        exact ⟨rfl, h3⟩
      · rw [hup] at hu
        rw [s5] at c1
        rw [ha] at c4
        go_enter Tryz.func38, Tryz.ntmps38
        go_wp2_with fail
        refine hu.mono ?_
        rintro r w1 ⟨rfl, rfl⟩
        go_wp2_with fail
        refine hp.mono ?_
        rintro r w2 ⟨rfl, h2⟩
        have h3 := hb _ _ h2
        clear hb hf h2 hp hu h c7 c1 c4
        go_wp2
        go_ret
        exact ⟨rfl, h3⟩
end Go.Proofs.YtoophfokbioaaaaGreatDoor
