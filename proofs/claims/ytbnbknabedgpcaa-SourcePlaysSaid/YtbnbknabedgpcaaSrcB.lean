/- The source of TEIs, further. -/
import Derived.Test.YtbnbknabedgpcaaSrc
namespace Go.Proofs.Ytbnbknabedgpcaa
open Go.RowKit

theorem mlook_mem {α β : Type} [DecidableEq α] : ∀ {l : List (α × β)} {k : α} {v : β}, mlook l k = some v → (k, v) ∈ l
  | p :: l, k, v, h => by
    unfold mlook at h
    split at h
    · rename_i e
      simp at h
      subst e h
      simp
    · simp [mlook_mem h]

structure Sr.Ok (x : Sr) : Prop where
  on : x.pool.on < 2 ^ 63
  last : x.pool.last ≤ 62
  all : ∀ p ∈ x.checks, p.2.tei = p.1 ∧ 64 ≤ p.1 ∧ p.1 ≤ 126 ∧ 1 ≤ p.2.asked ∧ p.2.asked ≤ 2 ∧ 0 ≤ p.2.ans ∧ p.2.ans ≤ 1

def Sr.stray (x : Sr) (tei : Int) : List Ef := if kindOf tei ≠ 2 ∨ x.pool.has tei = true then [] else [.said 6 0 tei]

theorem so_stray (s : Nat) (x : Sr) (tei : Int) (w0 w : World) (R : HP) (h : St w0 w (SAt s x * R)) (hn : x.pool.on < 2 ^ 63) :
    Calls Try.prog 46 #[ptr s, .int .i64 tei] w fun e w' => ∃ v, e = .returned v ∧ St w0 w' (EAt v (x.stray tei) * (SAt s x * R)) := by
  unfold Sr.stray
  by_cases a : kindOf tei = 2
  · obtain ⟨p, b, h1⟩ := h.s_open
    have c := h1.cell
    have hh := fun n => p_has p x.pool tei w0 (w.drewN n) _ ((h1.drewN n).f2) hn
    rw [a]
    by_cases hb : x.pool.has tei = true
    · rw [if_pos (.inr hb)]
      rw [hb] at hh
      have H1 := Lib.hid a
      clear a
      go_enter Try.func46, Try.ntmps46
      go_wp2_with fail
      refine (a_kind tei _).mono ?_
      rintro e w1 ⟨rfl, rfl⟩
      rw [H1.out]
      go_wp2_with fail
      refine (hh 0).mono ?_
      rintro e w1 ⟨rfl, n, rfl⟩
      go_wp2
      go_ret
      exact ⟨_, rfl, (h.drewN n).l_nil _ _ _⟩
    · have hb' : x.pool.has tei = false := by simpa using hb
      rw [if_neg (by simp [hb'])]
      rw [hb'] at hh
      have H1 := Lib.hid a
      clear a
      go_enter Try.func46, Try.ntmps46
      go_wp2_with fail
      refine (a_kind tei _).mono ?_
      rintro e w1 ⟨rfl, rfl⟩
      rw [H1.out]
      go_wp2_with fail
      refine (hh 0).mono ?_
      rintro e w1 ⟨rfl, n, rfl⟩
      go_wp2_with fail
      refine (so_said 6 0 tei _ _ _ (h.drewN n)).mono ?_
      rintro e w4 ⟨rfl, h4⟩
      go_wp2
      go_ret
      have h6 := (h4.alloc (.cells #[.int .i64 0, .int .i64 6, .int .i64 0, .int .i64 tei, .int .i64 0] 32)).l_mk (enc := Ef.cells) (sz := 5) tyEf.len [.said 6 0 tei] 1 rfl (by simp [Ef.said]) (by decide)
      exact ⟨_, rfl, h6⟩
  · rw [if_pos (.inl a)]
    have a' : ((kindOf tei) == 2) = false := by simpa using a
    go_enter Try.func46, Try.ntmps46
    go_wp2_with fail
    refine (a_kind tei _).mono ?_
    rintro e w1 ⟨rfl, rfl⟩
    generalize kindOf tei = kk at *
    go_wp2
    go_ret
    exact ⟨_, rfl, h.l_nil _ _ _⟩

def Sr.response (x : Sr) (tei : Int) : Sr × List Ef :=
  match mlook x.checks tei with
  | none => (x, x.stray tei)
  | some c => if 1 < c.ans + 1 then Sr.remove ⟨x.pool, mput x.checks tei ⟨c.tei, c.asked, c.ans + 1⟩⟩ tei else (⟨x.pool, mput x.checks tei ⟨c.tei, c.asked, c.ans + 1⟩⟩, [])

set_option maxRecDepth 100000 in
theorem so_response (s : Nat) (x : Sr) (tei : Int) (w0 w : World) (R : HP) (h : St w0 w (SAt s x * R)) (ok : x.Ok) (hk : kInt.ok tei) :
    Calls Try.prog 45 #[ptr s, .int .i64 tei] w fun e w' => ∃ v, e = .returned v ∧ St w0 w' (EAt v (x.response tei).2 * (SAt s (x.response tei).1 * R)) := by
  obtain ⟨p, b, h1⟩ := h.s_open
  have c := h1.cell
  have lt := h1.lt
  unfold Sr.response
  cases hr : mlook x.checks tei with
  | none =>
    have hl := h1.f3.chk_none hk hr
    have h2 := (h.alloc (.cells #[.int .i64 0, .int .i64 0, .int .i64 0] 91)).drop
    simp only []
    go_enter Try.func45, Try.ntmps45
    go_wp2_with fail
    refine (so_stray s x tei _ _ _ h2 ok.on).mono ?_
    rintro e w2 ⟨v, rfl, h3⟩
    go_wp2
    go_ret
    exact ⟨_, rfl, h3⟩
  | some cc =>
    obtain ⟨ct, ca, cn⟩ := cc
    have hm := ok.all _ (mlook_mem hr)
    simp only [] at hm
    obtain ⟨hct, hm⟩ := hm
    subst ct
    have hl := h1.f3.chk_some hk hr
    have h2 := h1.alloc (.cells #[.int .i64 tei, .int .i64 ca, .int .i64 (cn + 1)] 91)
    simp only []
    have hw : IntKind.i64.wrap (cn + 1) = cn + 1 := by rw [IntKind.wrap_i64]; omega
    by_cases hc : 1 < cn + 1
    · rw [if_pos hc]
      go_enter Try.func45, Try.ntmps45
      go_upto_region 5 with fail
      generalize w.alloc _ = w2 at *
      have c2 := h2.cell
      have c3 := h2.f2.cell
      clear h1 c lt hl
      go_still_tail 6, (by kernel_rfl)
      change wpList _ _ _ _ _ w2.drew
      have h3 := h2.drew
      clear c2 c3
      generalize w2.drew = w3 at *
      go_wp2_with (at_mapUpdate; refine wp_mput rfl (.tmp 28) (.tmp 29) (.tmp 30) 101 rfl tyChk h3.f4 rfl tei rfl hk ⟨tei, ca, cn + 1⟩ rfl ?_; intro w5 h6; have c6 := h6.f2.cell)
      have h8 := h6.f2.drop.b3.s_shut
      have okm : (⟨x.pool, mput x.checks tei ⟨tei, ca, cn + 1⟩⟩ : Sr).pool.on < 2 ^ 63 := ok.on
      go_wp2_with fail
      refine (so_remove s ⟨x.pool, mput x.checks tei ⟨tei, ca, cn + 1⟩⟩ tei _ _ _ h8 hk okm).mono ?_
      rintro e w7 ⟨v, rfl, h9⟩
      go_wp2
      go_ret
      exact ⟨_, rfl, h9⟩
    · rw [if_neg hc]
      go_enter Try.func45, Try.ntmps45
      go_upto_region 5 with fail
      generalize w.alloc _ = w2 at *
      have c2 := h2.cell
      have c3 := h2.f2.cell
      clear h1 c lt hl
      go_still_tail 6, (by kernel_rfl)
      change wpList _ _ _ _ _ w2.drew
      have h3 := h2.drew
      clear c2 c3
      generalize w2.drew = w3 at *
      go_wp2_with (at_mapUpdate; refine wp_mput rfl (.tmp 28) (.tmp 29) (.tmp 30) 101 rfl tyChk h3.f4 rfl tei rfl hk ⟨tei, ca, cn + 1⟩ rfl ?_; intro w5 h6; have c6 := h6.f2.cell)
      have h8 := h6.f2.drop.b3.s_shut
      go_wp2
      go_ret
      exact ⟨_, rfl, h8.l_nil _ _ _⟩

def Sr.check (x : Sr) (tei : Int) : Sr × List Ef × Int :=
  if x.pool.has tei = false then (x, [], 11) else match mlook x.checks tei with
  | some _ => (x, [], 13)
  | none => ((x.ask tei).1, (x.ask tei).2, 0)

theorem so_check (s : Nat) (x : Sr) (tei : Int) (w0 w : World) (R : HP) (h : St w0 w (SAt s x * R)) (ok : x.Ok) (hk : kInt.ok tei) :
    Calls Try.prog 39 #[ptr s, .int .i64 tei] w fun e w' => ∃ v, e = .returned (.tuple #[v, .int .i64 (x.check tei).2.2]) ∧ St w0 w' (EAt v (x.check tei).2.1 * (SAt s (x.check tei).1 * R)) := by
  obtain ⟨p, b, h1⟩ := h.s_open
  have c := h1.cell
  have hh := p_has p x.pool tei w0 w _ h1.f2 ok.on
  unfold Sr.check
  cases hb : x.pool.has tei with
  | false =>
    rw [if_pos rfl]
    rw [hb] at hh
    go_enter Try.func39, Try.ntmps39
    go_wp2_with fail
    refine hh.mono ?_
    rintro e w1 ⟨rfl, n, rfl⟩
    go_wp2
    go_ret2
    exact ⟨_, rfl, (h.drewN n).l_nil _ _ _⟩
  | true =>
    rw [if_neg (by simp)]
    rw [hb] at hh
    cases hr : mlook x.checks tei with
    | some cc =>
      obtain ⟨ct, ca, cn⟩ := cc
      simp only []
      go_enter Try.func39, Try.ntmps39
      go_wp2_with fail
      refine hh.mono ?_
      rintro e w1 ⟨rfl, n, rfl⟩
      have h2 := h1.drewN n
      have h3 := h.drewN n
      generalize w.drewN n = w1 at *
      clear c hh
      have c := h2.cell
      have hl := h2.f3.chk_some hk hr
      go_wp2
      go_ret2
      exact ⟨_, rfl, (h3.alloc _).drop.l_nil _ _ _⟩
    | none =>
      have ha : 0 ≤ ((mlook x.checks tei).getD ⟨0, 0, 0⟩).asked ∧ ((mlook x.checks tei).getD ⟨0, 0, 0⟩).asked ≤ 2 := by rw [hr]; simp
      simp only []
      go_enter Try.func39, Try.ntmps39
      go_wp2_with fail
      refine hh.mono ?_
      rintro e w1 ⟨rfl, n, rfl⟩
      have h2 := h1.drewN n
      have h3 := h.drewN n
      generalize w.drewN n = w1 at *
      clear c hh
      have c := h2.cell
      have hl := h2.f3.chk_none hk hr
      have h4 := (h3.alloc (.cells #[.int .i64 0, .int .i64 0, .int .i64 0] 91)).drop
      go_wp2_with fail
      refine (so_ask s x tei _ _ _ h4 hk ha).mono ?_
      rintro e w5 ⟨v, rfl, h5⟩
      go_wp2
      go_ret2
      exact ⟨_, rfl, h5⟩

theorem so_list (s : Nat) (x : Sr) (w0 w : World) (R : HP) (h : St w0 w (SAt s x * R)) (hn : x.pool.on < 2 ^ 63) :
    Calls Try.prog 17 #[ptr s] w fun e w' => ∃ v, e = .returned v ∧ St w0 w' (Row 3 1 v (x.pool.upto 63).length (teis (x.pool.upto 63)) * (SAt s x * R)) := by
  obtain ⟨p, b, h1⟩ := h.s_open
  have c := h1.cell
  go_enter Try.func17, Try.ntmps17
  go_wp2_with fail
  refine (p_list p x.pool w0 w _ h1.f2 hn).mono ?_
  rintro e w1 ⟨v, rfl, h2⟩
  go_wp2
  go_ret
  exact ⟨_, rfl, h2.b4.f2.s_shut.f2⟩
end Go.Proofs.Ytbnbknabedgpcaa
