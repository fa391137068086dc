/- The source of TEIs: a message comes; what is always so. -/
import Derived.Test.YtbnbknabedgpcaaSrcC
namespace Go.Proofs.Ytbnbknabedgpcaa
open Go.RowKit

theorem mput_mem {α β : Type} [DecidableEq α] {k : α} {v : β} {p : α × β} : ∀ {l : List (α × β)}, p ∈ mput l k v → p ∈ l ∨ p = (k, v)
  | [], h => by simp [mput] at h; exact .inr h
  | q :: l, h => by
    unfold mput at h
    split at h
    · simp at h; rcases h with h | h
      · exact .inr h
      · exact .inl (by simp [h])
    · simp at h; rcases h with h | h
      · exact .inl (by simp [h])
      · rcases mput_mem h with h | h
        · exact .inl (by simp [h])
        · exact .inr h

theorem has_range {s : Pl} {t : Int} (h : s.has t = true) : 64 ≤ t ∧ t ≤ 126 := by
  unfold Pl.has at h
  simp only [Bool.and_eq_true, decide_eq_true_eq] at h
  exact h.1

theorem free_ok (s : Pl) (t : Int) (h : s.on < 2 ^ 63) : (s.free t).1.on < 2 ^ 63 ∧ (s.free t).1.last = s.last := by
  unfold Pl.free
  split
  · rename_i hh
    have := has_range hh
    exact ⟨Nat.xor_lt_two_pow h (Nat.pow_lt_pow_right (by decide) (by omega)), rfl⟩
  · exact ⟨h, rfl⟩

theorem Sr.Ok.put {x : Sr} (ok : x.Ok) {t a n : Int} (h1 : 64 ≤ t) (h2 : t ≤ 126) (h3 : 1 ≤ a) (h4 : a ≤ 2) (h5 : 0 ≤ n) (h6 : n ≤ 1) : Sr.Ok ⟨x.pool, mput x.checks t ⟨t, a, n⟩⟩ :=
  ⟨ok.on, ok.last, fun p hp => by
    rcases mput_mem hp with hp | rfl
    · exact ok.all p hp
    · exact ⟨rfl, h1, h2, h3, h4, h5, h6⟩⟩

theorem Sr.Ok.remove {x : Sr} (hon : x.pool.on < 2 ^ 63) (hl : x.pool.last ≤ 62) (t : Int) (hall : ∀ p ∈ mdel x.checks t, p.2.tei = p.1 ∧ 64 ≤ p.1 ∧ p.1 ≤ 126 ∧ 1 ≤ p.2.asked ∧ p.2.asked ≤ 2 ∧ 0 ≤ p.2.ans ∧ p.2.ans ≤ 1) : (x.remove t).1.Ok :=
  have h := free_ok x.pool t hon
  ⟨h.1, by show (x.pool.free t).1.last ≤ 62; rw [h.2]; exact hl, hall⟩

theorem mdel_mput {α β : Type} [DecidableEq α] {k : α} {v : β} : ∀ {l : List (α × β)}, mlook l k ≠ none → mdel (mput l k v) k = mdel l k
  | [], h => absurd rfl h
  | q :: l, h => by
    unfold mlook at h
    unfold mput
    by_cases hq : q.1 = k
    · simp [hq, mdel]
    · rw [if_neg hq] at h
      simp [hq, mdel, mdel_mput h]

theorem Sr.Ok.response {x : Sr} (ok : x.Ok) (t : Int) : (x.response t).1.Ok := by
  unfold Sr.response
  cases hr : mlook x.checks t with
  | none => exact ok
  | some c =>
    obtain ⟨ct, ca, cn⟩ := c
    obtain ⟨e, h1, h2, h3, h4, h5, h6⟩ := ok.all _ (mlook_mem hr)
    simp only [] at e h1 h2 h3 h4 h5 h6 ⊢
    subst e
    split
    · refine Sr.Ok.remove (x := ⟨x.pool, mput x.checks ct ⟨ct, ca, cn + 1⟩⟩) ok.on ok.last _ ?_
      simp only []
      rw [mdel_mput (by rw [hr]; simp)]
      exact fun p hp => ok.all p (mdel_sub hp)
    · exact ok.put h1 h2 h3 h4 (by omega) (by omega)

theorem auditK_ok {x : Sr} : ∀ (l : List Nat), (∀ i ∈ l, i < 63) → x.Ok → (x.auditK l).Ok
  | [], _, ok => ok
  | i :: l, h, ok => by
    have hi := h i (by simp)
    have := auditK_ok (x := ⟨x.pool, mput x.checks (64 + (i : Int)) ⟨64 + (i : Int), 1, 0⟩⟩) l (fun j hj => h j (by simp [hj])) (ok.put (by omega) (by omega) (by omega) (by omega) (by omega) (by omega))
    exact this

theorem Sr.Ok.audit {x : Sr} (ok : x.Ok) : x.audit.1.Ok := auditK_ok _ (fun _ hi => upto_lt hi) ok

theorem Sr.Ok.request {x : Sr} (ok : x.Ok) (m : Msg) : (x.request m).1.Ok := by
  have h := seek_on 63 x.pool ok.on ok.last
  unfold Sr.request
  split
  · exact ok
  · split
    · exact ⟨h.1, h.2, ok.all⟩
    · exact Sr.Ok.audit ⟨h.1, h.2, ok.all⟩

theorem Sr.Ok.ask {x : Sr} (ok : x.Ok) (t : Int) (h1 : 64 ≤ t) (h2 : t ≤ 126) (ha : ((mlook x.checks t).getD ⟨0, 0, 0⟩).asked ≤ 1) : (x.ask t).1.Ok := by
  refine ok.put h1 h2 ?_ (by omega) (by omega) (by omega)
  cases hr : mlook x.checks t with
  | none => simp
  | some c =>
    obtain ⟨e, h1, h2, h3, h4, h5, h6⟩ := ok.all _ (mlook_mem hr)
    simp only [Option.getD_some] at *
    omega

theorem Sr.Ok.check {x : Sr} (ok : x.Ok) (t : Int) : (x.check t).1.Ok := by
  unfold Sr.check
  split
  · exact ok
  · rename_i hh
    have := has_range (by simpa using hh)
    cases hr : mlook x.checks t with
    | none => exact ok.ask t this.1 this.2 (by rw [hr]; simp)
    | some c => exact ok

def Sr.message (x : Sr) (m : Msg) : Sr × List Ef :=
  if m.bad ≠ 0 then (x, []) else
  if m.ty = 1 then x.request m else
  if m.ty = 5 then x.response m.ai else
  if m.ty = 7 then if (x.check m.ai).2.2 = 0 then ((x.check m.ai).1, (x.check m.ai).2.1) else ((x.check m.ai).1, (x.check m.ai).1.stray m.ai)
  else (x, [])

theorem Sr.Ok.message {x : Sr} (ok : x.Ok) (m : Msg) : (x.message m).1.Ok := by
  unfold Sr.message
  split
  · exact ok
  split
  · exact ok.request m
  split
  · exact ok.response _
  split
  · split
    · exact ok.check _
    · exact ok.check _
  · exact ok

theorem Msg.good {m : Msg} (h : m.bad = 0) : 1 ≤ m.ty ∧ m.ty ≤ 7 ∧ 0 ≤ m.ri ∧ m.ri < 65536 ∧ 0 ≤ m.ai ∧ m.ai ≤ 127 := by
  unfold Msg.bad at h
  split at h
  · cases h
  split at h
  · cases h
  split at h
  · omega
  · cases h

set_option maxRecDepth 100000 in
theorem so_message (s : Nat) (x : Sr) (m : Msg) (w0 w : World) (R : HP) (h : St w0 w (SAt s x * R)) (ok : x.Ok) :
    Calls Try.prog 15 #[ptr s, .agg #[.int .i64 m.ty, .int .i64 m.ri, .int .i64 m.ai]] w fun e w' => ∃ v, e = .returned v ∧ St w0 w' (EAt v (x.message m).2 * (SAt s (x.message m).1 * R)) := by
  have h1 := (h.alloc (.cells #[.int .i64 m.ty, .int .i64 m.ri, .int .i64 m.ai] 29))
  have hp := m_put m w0 _ _ h1
  obtain ⟨bad, hbad⟩ : ∃ b, m.bad = b := ⟨_, rfl⟩
  unfold Sr.message
  rw [hbad] at hp ⊢
  by_cases hb : bad = 0
  · subst hb
    have hg := Msg.good hbad
    rw [if_neg (by simp)]
    have hka := kok m.ai (by omega) (by omega)
    obtain ⟨ty, ri, ai⟩ := m
    simp only [] at *
    clear hbad
    by_cases t1 : ty = 1
    · rw [if_pos t1]
      subst t1
      go_enter Try.func15, Try.ntmps15
      go_wp2_with fail
      refine hp.mono ?_
      rintro e w1 ⟨⟨str, rfl⟩, h2⟩
      have c2 := h2.cell
      go_wp2_with fail
      refine (so_request s x ⟨1, ri, ai⟩ _ _ _ h2.f2 ok).mono ?_
      rintro e w2 ⟨v, rfl, h3⟩
      go_wp2
      go_ret
      exact ⟨_, rfl, h3.f3.drop⟩
    rw [if_neg t1]
    by_cases t5 : ty = 5
    · rw [if_pos t5]
      subst t5
      go_enter Try.func15, Try.ntmps15
      go_wp2_with fail
      refine hp.mono ?_
      rintro e w1 ⟨⟨str, rfl⟩, h2⟩
      have c2 := h2.cell
      go_wp2_with fail
      refine (so_response s x ai _ _ _ h2.f2 ok hka).mono ?_
      rintro e w2 ⟨v, rfl, h3⟩
      go_wp2
      go_ret
      exact ⟨_, rfl, h3.f3.drop⟩
    rw [if_neg t5]
    have n1 : (ty == 1) = false := by simpa using t1
    have n5 : (ty == 5) = false := by simpa using t5
    by_cases t7 : ty = 7
    · rw [if_pos t7]
      subst t7
      by_cases hc : (x.check ai).2.2 = 0
      · rw [if_pos hc]
        have HC := Lib.hid hc
        clear hc
        go_enter Try.func15, Try.ntmps15
        go_wp2_with fail
        refine hp.mono ?_
        rintro e w1 ⟨⟨str, rfl⟩, h2⟩
        have c2 := h2.cell
        go_wp2_with fail
        refine (so_check s x ai _ _ _ h2.f2 ok hka).mono ?_
        rintro e w2 ⟨v, rfl, h3⟩
        rw [HC.out]
        go_wp2
        go_ret
        exact ⟨_, rfl, h3.f3.drop⟩
      · rw [if_neg hc]
        have hc' : ((x.check ai).2.2 == 0) = false := by simpa using hc
        generalize hce : x.check ai = r at *
        have HCE := Lib.hid hce
        have okc := ok.check ai
        clear hce
        go_enter Try.func15, Try.ntmps15
        go_wp2_with fail
        refine hp.mono ?_
        rintro e w1 ⟨⟨str, rfl⟩, h2⟩
        have c2 := h2.cell
        go_wp2_with fail
        refine (so_check s x ai _ _ _ h2.f2 ok hka).mono ?_
        rintro e w2 ⟨v, rfl, h3⟩
        rw [HCE.out] at h3 okc ⊢
        obtain ⟨x', l', er⟩ := r
        simp only [] at *
        have c3 := h3.f3.cell
        go_wp2_with fail
        refine (so_stray s x' ai _ _ _ h3.f2 okc.on).mono ?_
        rintro e w4 ⟨v4, rfl, h5⟩
        go_wp2
        go_ret
        exact ⟨_, rfl, h5.f4.drop.f3.drop⟩
    rw [if_neg t7]
    have n7 : (ty == 7) = false := by simpa using t7
    go_enter Try.func15, Try.ntmps15
    go_wp2_with fail
    refine hp.mono ?_
    rintro e w1 ⟨⟨str, rfl⟩, h2⟩
    have c2 := h2.cell
    go_wp2
    go_ret
    exact ⟨_, rfl, h2.drop.l_nil _ _ _⟩
  · rw [if_pos hb]
    have hb' : (bad == 0) = false := by simpa using hb
    go_enter Try.func15, Try.ntmps15
    go_wp2_with fail
    refine hp.mono ?_
    rintro e w1 ⟨⟨str, rfl⟩, h2⟩
    go_wp2
    go_ret
    exact ⟨_, rfl, h2.drop.l_nil _ _ _⟩
end Go.Proofs.Ytbnbknabedgpcaa
