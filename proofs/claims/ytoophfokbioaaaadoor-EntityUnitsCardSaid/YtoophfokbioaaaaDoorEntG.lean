/- The entity: open, up, establish, release, data, own. The entity: establish, release, data. -/
import Derived.Test.YtoophfokbioaaaaDoorEntE
namespace Go.Proofs.YtoophfokbioaaaaDoor
open Go.RowKit

section
variable {w0 w : World} {R : HP} {e : Nat} {x : En}
/-- its flow, to be used and put back -/
theorem St.e_fl (h : St w0 w (EnAt e x * R)) : ∃ fp R', w.cell? ⟨e, 7, none⟩ = some (ptr fp) ∧ St w0 w (FAt TF TQ fp x.fl * R') ∧ ∀ w' fl, St w0 w' (FAt TF TQ fp fl * R') → St w0 w' (EnAt e (x.setFl fl) * R) := by
  obtain ⟨rm, fp, uv, ov, rl, hr, h1⟩ := h.e_open
  exact ⟨fp, _, h1.cell 7, h1.f4, fun w' fl h2 => h2.b4.e_shut (x := x.setFl fl) rfl rfl hr rfl rfl rfl⟩
theorem St.e_c0 (h : St w0 w (EnAt e x * R)) : w.cell? ⟨e, 0, none⟩ = some (.int .i64 x.most) := by obtain ⟨rm, fp, uv, ov, rl, hr, h1⟩ := h.e_open; exact h1.cell 0
theorem St.e_c1 (h : St w0 w (EnAt e x * R)) : w.cell? ⟨e, 1, none⟩ = some (.int .i64 x.state) := by obtain ⟨rm, fp, uv, ov, rl, hr, h1⟩ := h.e_open; exact h1.cell 1
theorem St.e_c2 (h : St w0 w (EnAt e x * R)) : w.cell? ⟨e, 2, none⟩ = some (.int .i64 x.tei) := by obtain ⟨rm, fp, uv, ov, rl, hr, h1⟩ := h.e_open; exact h1.cell 2
theorem St.e_c3 (h : St w0 w (EnAt e x * R)) : w.cell? ⟨e, 3, none⟩ = some (.int .i64 x.tries) := by obtain ⟨rm, fp, uv, ov, rl, hr, h1⟩ := h.e_open; exact h1.cell 3
theorem St.e_c4 (h : St w0 w (EnAt e x * R)) : w.cell? ⟨e, 4, none⟩ = some (.bool x.asked) := by obtain ⟨rm, fp, uv, ov, rl, hr, h1⟩ := h.e_open; exact h1.cell 4
theorem St.e_fr (h : St w0 w (EnAt e x * R)) : ∀ i, w.frozen? ⟨e, i, none⟩ = false := by obtain ⟨rm, fp, uv, ov, rl, hr, h1⟩ := h.e_open; exact h1.free
end

theorem e_open1 (e : Nat) (x : En) (ok : x.fl.Ok) (hl : x.out.length ≤ 98990) (w0 w : World) (R : HP) (h : St w0 w (EnAt e x * R)) :
    Calls Tryd.prog 51 #[ptr e] w fun r w' => r = .returned (.tuple #[]) ∧ St w0 w' (EnAt e x.open1 * R) := by
  have l1 : ((x.setFl x.fl.reset).stop 200).out.length ≤ x.out.length + 1 := En.stop_len (x.setFl x.fl.reset) 200
  have l2 := En.start_len ((x.setFl x.fl.reset).stop 200) 203
  have ok2 : ((((x.setFl x.fl.reset).stop 200).start 203).setState 7).fl.Ok := by
    show (((x.setFl x.fl.reset).stop 200).start 203).fl.Ok
    rw [En.start_fl, En.stop_fl]
    exact ok.reset
  obtain ⟨fp, R', c7, hf, hb⟩ := h.e_fl
  clear h
  go_enter Tryd.func51, Tryd.ntmps51
  go_wp2_with fail
  refine (f_reset fp x.fl w0 w _ hf).mono ?_
  rintro r w1 ⟨rfl, h2⟩
  have h3 := hb _ _ h2
  clear hf hb h2 c7
  go_wp2_with fail
  refine (e_stop e (x.setFl x.fl.reset) 200 (.inl rfl) (show x.out.length ≤ 100000 by omega) w0 w1 R h3).mono ?_
  rintro r w2 ⟨rfl, h4⟩
  go_wp2_with fail
  refine (e_start e _ 203 (.inr rfl) (by omega) w0 w2 R h4).mono ?_
  rintro r w3 ⟨rfl, h5⟩
  have h6 := h5.e_set_state 7
  have c1 := h5.e_c1
  have f1 := h5.e_fr
  clear h3 h4
  go_wp2_with fail
  refine (e_goOn e _ ok2 (show (((x.setFl x.fl.reset).stop 200).start 203).out.length ≤ 99000 by omega) w0 _ R h6).mono ?_
  rintro r w4 ⟨rfl, h7⟩
  clear c1 f1 h5 h6
  go_wp2
  go_end0
  exact ⟨rfl, h7⟩

theorem e_up (e : Nat) (x : En) (w0 w : World) (R : HP) (h : St w0 w (EnAt e x * R)) :
    Calls Tryd.prog 36 #[ptr e] w fun r w' => r = .returned (.bool x.up) ∧ w' = w := by
  have c1 := h.e_c1
  unfold En.up
  by_cases h7 : x.state = 7
  · rw [h7] at c1
    have b : (x.state == 7 || x.state == 8) = true := by rw [h7]; rfl
    rw [b]
    clear b h7
    go_enter Tryd.func36, Tryd.ntmps36
    go_wp2
    go_ret
    exact ⟨rfl, rfl⟩
  · have b7 : (x.state == 7) = false := by simpa using h7
    rw [b7]
    by_cases h8 : x.state = 8
    · rw [h8] at c1
      have b8 : (x.state == 8) = true := by rw [h8]; rfl
      rw [b8]
      clear b8 b7 h7 h8
      go_enter Tryd.func36, Tryd.ntmps36
      go_wp2
      go_ret
      exact ⟨rfl, rfl⟩
    · have b8 : (x.state == 8) = false := by simpa using h8
      rw [b8]
      go_enter Tryd.func36, Tryd.ntmps36
      go_wp2
      go_ret
      exact ⟨rfl, rfl⟩

theorem e_own (e : Nat) (x : En) (b : Bool) (ok : x.fl.Ok) (hl : x.out.length ≤ 99990) (w0 w : World) (R : HP) (h : St w0 w (EnAt e x * R)) :
    Calls Tryd.prog 19 #[ptr e, .bool b] w fun r w' => r = .returned (.int .i64 (x.own b).2) ∧ St w0 w' (EnAt e (x.own b).1 * R) := by
  have hu := e_up e x w0 w R h
  obtain ⟨fp, R', c7, hf, hb⟩ := h.e_fl
  have hso := f_set_own fp x.fl b w0 w R' hf
  unfold En.own
  cases hup : x.up with
  | false =>
    rw [hup] at hu
    rw [if_pos rfl]
    go_enter Tryd.func19, Tryd.ntmps19
    go_wp2_with fail
    refine hu.mono ?_
    rintro r w1 ⟨rfl, rfl⟩
    go_wp2
    go_ret
    exact ⟨rfl, h⟩
  | true =>
    rw [hup] at hu
    rw [if_neg (by simp)]
    by_cases ho : x.fl.own = b
    · rw [if_pos ho]
      have q : (x.fl.own != b) = false := by simpa using ho
      rw [q] at hso
      have e1 : ({ x.fl with own := b } : Fl) = x.fl := by subst ho; rfl
      rw [e1] at hso
      go_enter Tryd.func19, Tryd.ntmps19
      go_wp2_with fail
      refine hu.mono ?_
      rintro r w1 ⟨rfl, rfl⟩
      go_wp2_with fail
      refine hso.mono ?_
      rintro r w2 ⟨rfl, h2⟩
      have h3 := hb _ _ h2
      go_wp2
      go_ret
      exact ⟨rfl, h3⟩
    · rw [if_neg ho]
      have q : (x.fl.own != b) = true := by simpa using ho
      rw [q] at hso
      go_enter Tryd.func19, Tryd.ntmps19
      go_wp2_with fail
      refine hu.mono ?_
      rintro r w1 ⟨rfl, rfl⟩
      go_wp2_with fail
      refine hso.mono ?_
      rintro r w2 ⟨rfl, h2⟩
      have h3 := hb _ _ h2
      clear hb hf hso hu h c7
      go_wp2_with fail
      refine (e_superv e (x.setFl (Fl.withOwn x.fl b)) false false (ok.own b) (show x.out.length ≤ 100000 by omega) w0 w2 R h3).mono ?_
      rintro r w3 ⟨rfl, h4⟩
      go_wp2
      go_ret
      exact ⟨rfl, h4⟩
end Go.Proofs.YtoophfokbioaaaaDoor

namespace Go.Proofs.YtoophfokbioaaaaDoor
open Go.RowKit

theorem En.up_iff (x : En) : x.up = true ↔ x.state = 7 ∨ x.state = 8 := by simp [En.up]

/-! establish -/
theorem e_establish (e : Nat) (x : En) (ok : x.fl.Ok) (hl : x.out.length ≤ 99980) (w0 w : World) (R : HP) (h : St w0 w (EnAt e x * R)) :
    Calls Tryd.prog 15 #[ptr e] w fun r w' => r = .returned (.int .i64 x.establish.2) ∧ St w0 w' (EnAt e x.establish.1 * R) := by
  have c1 := h.e_c1
  have f := h.e_fr
  unfold En.establish
  by_cases s1 : x.state = 1
  · rw [if_pos s1]
    rw [s1] at c1
    have h2 := h.e_set_state 3
    go_enter Tryd.func15, Tryd.ntmps15
    go_wp2_with fail
    refine (e_told e (x.setState 3) 8 noStr (show x.out.length ≤ 100000 by omega) w0 _ R h2).mono ?_
    rintro r w1 ⟨rfl, h3⟩
    go_wp2
    go_ret
    exact ⟨rfl, h3⟩
  rw [if_neg s1]
  by_cases s2 : x.state = 2
  · rw [if_pos s2]
    rw [s2] at c1
    have h2 := h.e_set_state 3
    go_enter Tryd.func15, Tryd.ntmps15
    go_wp2
    go_ret
    exact ⟨rfl, h2⟩
  rw [if_neg s2]
  by_cases s6 : x.state = 6
  · rw [if_pos s6]
    rw [s6] at c1
    go_enter Tryd.func15, Tryd.ntmps15
    go_wp2
    go_ret
    exact ⟨rfl, h⟩
  rw [if_neg s6]
  by_cases s5 : x.state = 5
  · rw [if_pos s5]
    rw [s5] at c1
    obtain ⟨fp, R', c7, hf, hb⟩ := h.e_fl
    go_enter Tryd.func15, Tryd.ntmps15
    go_wp2_with fail
    refine (f_clear fp x.fl w0 w R' hf ok).mono ?_
    rintro r w1 ⟨rfl, h2⟩
    have h3 := hb _ _ h2
    have f3 := h3.e_fr
    have c4 := h3.e_c4
    have h4 := h3.e_set_asked true
    clear hb hf h2
    go_wp2
    go_ret
    exact ⟨rfl, h4⟩
  rw [if_neg s5]
  by_cases s78 : x.state = 7 ∨ x.state = 8
  · rw [if_pos s78]
    rcases s78 with s7 | s7
    all_goals
      rw [s7] at c1
      obtain ⟨fp, R', c7, hf, hb⟩ := h.e_fl
      go_enter Tryd.func15, Tryd.ntmps15
      go_wp2_with fail
      refine (f_clear fp x.fl w0 w R' hf ok).mono ?_
      rintro r w1 ⟨rfl, h2⟩
      have h3 := hb _ _ h2
      have f3 := h3.e_fr
      have c4 := h3.e_c4
      have h4 := h3.e_set_asked true
      clear hb hf h2
      go_wp2_with fail
      refine (e_call e ((x.setFl x.fl.clear).setAsked true) ok.clear (show x.out.length ≤ 99990 by omega) w0 _ R h4).mono ?_
      rintro r w2 ⟨rfl, h5⟩
      clear c4 f3 h3 h4 c7 h
      go_wp2
      go_ret
      exact ⟨rfl, h5⟩
  rw [if_neg s78]
  by_cases s4 : x.state = 4
  · rw [if_pos s4]
    rw [s4] at c1
    have c4 := h.e_c4
    have h2 := h.e_set_asked true
    go_enter Tryd.func15, Tryd.ntmps15
    go_wp2_with fail
    refine (e_call e (x.setAsked true) ok (show x.out.length ≤ 99990 by omega) w0 _ R h2).mono ?_
    rintro r w2 ⟨rfl, h5⟩
    clear c4 f c1 h h2
    go_wp2
    go_ret
    exact ⟨rfl, h5⟩
  rw [if_neg s4]
  have b1 : (x.state == 1) = false := by simpa using s1
  have b2 : (x.state == 2) = false := by simpa using s2
  have b4 : (x.state == 4) = false := by simpa using s4
  have b5 : (x.state == 5) = false := by simpa using s5
  have b6 : (x.state == 6) = false := by simpa using s6
  have b7 : (x.state == 7) = false := by simpa using fun e => s78 (.inl e)
  have b8 : (x.state == 8) = false := by simpa using fun e => s78 (.inr e)
  go_enter Tryd.func15, Tryd.ntmps15
  go_wp2
  go_ret
  exact ⟨rfl, h⟩

/-! release -/
theorem e_release (e : Nat) (x : En) (ok : x.fl.Ok) (hl : x.out.length ≤ 99980) (w0 w : World) (R : HP) (h : St w0 w (EnAt e x * R)) :
    Calls Tryd.prog 16 #[ptr e] w fun r w' => r = .returned (.int .i64 x.release.2) ∧ St w0 w' (EnAt e x.release.1 * R) := by
  have c1 := h.e_c1
  have hu := e_up e x w0 w R h
  unfold En.release
  by_cases s4 : x.state = 4
  · rw [if_pos s4]
    rw [s4] at c1
    go_enter Tryd.func16, Tryd.ntmps16
    go_wp2_with fail
    refine (e_told e x 4 noStr (by omega) w0 _ R h).mono ?_
    rintro r w1 ⟨rfl, h3⟩
    go_wp2
    go_ret
    exact ⟨rfl, h3⟩
  rw [if_neg s4]
  have b4 : (x.state == 4) = false := by simpa using s4
  cases hup : x.up with
  | false =>
    rw [hup] at hu
    rw [if_neg (by simp)]
    go_enter Tryd.func16, Tryd.ntmps16
    go_wp2_with fail
    refine hu.mono ?_
    rintro r w1 ⟨rfl, rfl⟩
    go_wp2
    go_ret
    exact ⟨rfl, h⟩
  | true =>
    rw [hup] at hu
    rw [if_pos rfl]
    obtain ⟨fp, R', c7, hf, hb⟩ := h.e_fl
    have hcl := f_clear fp x.fl w0 w R' hf ok
    have l1 : (((x.setFl x.fl.clear).setTries 0).send 7 true true).out.length = x.out.length + 1 := En.send_len ((x.setFl x.fl.clear).setTries 0) 7 true true
    have l2 := En.stop_len (((x.setFl x.fl.clear).setTries 0).send 7 true true) 203
    go_enter Tryd.func16, Tryd.ntmps16
    go_wp2_with fail
    refine hu.mono ?_
    rintro r w1 ⟨rfl, rfl⟩
    go_wp2_with fail
    refine hcl.mono ?_
    rintro r w2 ⟨rfl, h2⟩
    have h3 := hb _ _ h2
    have f3 := h3.e_fr
    have c3 := h3.e_c3
    have h4 := h3.e_set_tries 0
    clear hb hf h2 hcl hu h c7 c1
    go_wp2_with fail
    refine (e_send e ((x.setFl x.fl.clear).setTries 0) 7 true true ok.clear (show x.out.length ≤ 100000 by omega) w0 _ R h4).mono ?_
    rintro r w3 ⟨rfl, h5⟩
    clear h3 h4 f3 c3
    go_wp2_with fail
    refine (e_stop e _ 203 (.inr rfl) (by omega) w0 _ R h5).mono ?_
    rintro r w4 ⟨rfl, h6⟩
    go_wp2_with fail
    refine (e_start e _ 200 (.inl rfl) (by omega) w0 _ R h6).mono ?_
    rintro r w5 ⟨rfl, h7⟩
    have f7 := h7.e_fr
    have c1 := h7.e_c1
    have h8 := h7.e_set_state 6
    go_wp2
    go_ret
    exact ⟨rfl, h8⟩

/-! data -/
theorem e_data (e : Nat) (x : En) (s : ByteArray) (ok : x.fl.Ok) (hl : x.out.length ≤ 98990) (w0 w : World) (R : HP) (h : St w0 w (EnAt e x * R)) :
    Calls Tryd.prog 17 #[ptr e, .string s] w fun r w' => r = .returned (.int .i64 (x.data s).2) ∧ St w0 w' (EnAt e (x.data s).1 * R) := by
  have c1 := h.e_c1
  have c4 := h.e_c4
  have hu := e_up e x w0 w R h
  have hmay : (x.up = false ∧ (x.state ≠ 5 ∨ x.asked = true)) ∨ (x.up = true ∨ (x.up = false ∧ x.state = 5 ∧ x.asked = false)) := by
    cases x.up <;> cases x.asked <;> by_cases h5 : x.state = 5 <;> simp [h5]
  unfold En.data
  rcases hmay with hno | hyes
  · rw [if_pos hno]
    obtain ⟨hup, hno⟩ := hno
    rw [hup] at hu
    by_cases s5 : x.state = 5
    · have ha : x.asked = true := by rcases hno with h' | h'; exact absurd s5 h'; exact h'
      rw [s5] at c1
      rw [ha] at c4
      go_enter Tryd.func17, Tryd.ntmps17
      go_wp2_with fail
      refine hu.mono ?_
      rintro r w1 ⟨rfl, rfl⟩
      go_wp2
      go_ret
      exact ⟨rfl, h⟩
    · have b5 : (x.state != 5) = true := by simpa using s5
      have b6 : (x.state == 5) = false := by simpa using s5
      go_enter Tryd.func17, Tryd.ntmps17
      go_wp2_with fail
      refine hu.mono ?_
      rintro r w1 ⟨rfl, rfl⟩
      go_wp2
      go_ret
      exact ⟨rfl, h⟩
  · rw [if_neg (by rintro ⟨a, b⟩; rcases hyes with h' | ⟨_, h', h2'⟩; rw [a] at h'; cases h'; rcases b with b | b; exact b h'; rw [b] at h2'; cases h2')]
    obtain ⟨fp, R', c7, hf, hb⟩ := h.e_fl
    have hp := f_push fp x.fl s w0 w R' hf ok
    have okp := ok.push s
    generalize x.fl.q.push s = pu at *
    obtain ⟨q', cd⟩ := pu
    simp only [] at hp okp ⊢
    by_cases hc : cd = 0
    · subst hc
      rw [if_pos rfl]
      rcases hyes with hup | ⟨hup, s5, ha⟩
      · rw [hup] at hu
        go_enter Tryd.func17, Tryd.ntmps17
        go_wp2_with fail
        refine hu.mono ?_
        rintro r w1 ⟨rfl, rfl⟩
        go_wp2_with fail
        refine hp.mono ?_
        rintro r w2 ⟨rfl, h2⟩
        have h3 := hb _ _ h2
        clear hb hf h2 hp hu h c7 c1 c4
        go_wp2_with fail
        refine (e_goOn e (x.setFl (Fl.withQ x.fl q')) okp (show x.out.length ≤ 99000 by omega) w0 _ R h3).mono ?_
        rintro r w3 ⟨rfl, h4⟩
        go_wp2
        go_ret
        exact ⟨rfl, h4⟩
      · rw [hup] at hu
        rw [s5] at c1
        rw [ha] at c4
        go_enter Tryd.func17, Tryd.ntmps17
        go_wp2_with fail
        refine hu.mono ?_
        rintro r w1 ⟨rfl, rfl⟩
        go_wp2_with fail
        refine hp.mono ?_
        rintro r w2 ⟨rfl, h2⟩
        have h3 := hb _ _ h2
        clear hb hf h2 hp hu h c7 c1 c4
        go_wp2_with fail
        refine (e_goOn e (x.setFl (Fl.withQ x.fl q')) okp (show x.out.length ≤ 99000 by omega) w0 _ R h3).mono ?_
        rintro r w3 ⟨rfl, h4⟩
        go_wp2
        go_ret
        exact ⟨rfl, h4⟩
    · rw [if_neg hc]
      have bc : (cd == 0) = false := by simpa using hc
      rcases hyes with hup | ⟨hup, s5, ha⟩
      · rw [hup] at hu
        go_enter Tryd.func17, Tryd.ntmps17
        go_wp2_with fail
        refine hu.mono ?_
        rintro r w1 ⟨rfl, rfl⟩
        go_wp2_with fail
        refine hp.mono ?_
        rintro r w2 ⟨rfl, h2⟩
        have h3 := hb _ _ h2
        clear hb hf h2 hp hu h c7 c1 c4
        go_wp2
        go_ret
        exact ⟨rfl, h3⟩
      · rw [hup] at hu
        rw [s5] at c1
        rw [ha] at c4
        go_enter Tryd.func17, Tryd.ntmps17
        go_wp2_with fail
        refine hu.mono ?_
        rintro r w1 ⟨rfl, rfl⟩
        go_wp2_with fail
        refine hp.mono ?_
        rintro r w2 ⟨rfl, h2⟩
        have h3 := hb _ _ h2
        clear hb hf h2 hp hu h c7 c1 c4
        go_wp2
        go_ret
        exact ⟨rfl, h3⟩
end Go.Proofs.YtoophfokbioaaaaDoor
