/- The reference's source: New, CheckOne, Audit, Remove, Timeout, Message. -/
import Derived.Test.YtbnbknabedgpcaaSrcRB
namespace Go.Proofs.Ytbnbknabedgpcaa
open Go.RowKit

def sc0 (a : Value) (c : CN) (v : Value) : Array Value := (a :: (ccells c ++ [v])).toArray
theorem sc0_set (a : Value) (p : Nat) (c : CN) (v : Value) : (sc0 a c v).setIfInBounds 0 (ptr p) = sc p c v := by
  unfold sc0 sc
  rw [List.setIfInBounds_toArray, List.set_cons_zero]
set_option maxRecDepth 100000 in
theorem rs_new (w0 w : World) (R : HP) (h : St w0 w R) :
    Calls Try.prog 35 #[] w fun e w' => ∃ r, e = .returned (ptr r) ∧ St w0 w' (SR r ⟨⟨0, 62⟩, []⟩ [] * R) := by
  have hz1 : ∀ w, (zeroValue 123).run Try.prog w = .ok (.agg (pc (fun _ => false) 0)) w := fun w => by kernel_rfl
  have hz2 : ∀ w, (zeroValue 89).run Try.prog w = .ok (.agg (sc0 (.pointer none) (fun _ => (0, 0)) (.slice none 0 0))) w := fun w => by kernel_rfl
  have h1 := ((h.l_nil TE15 5 Ef.cells).alloc (.cells (pc (fun _ => false) 0) TP12)).pr_shut (s := ⟨0, 62⟩) (.inr ⟨rfl, rfl⟩) (fun i _ => by unfold Pl.has; simp)
  have h2 := h1.alloc (.cells (sc w.heap.size (fun _ => (0, 0)) (.slice none 0 0)) TS15)
  simp only [World.size_alloc] at h2
  have h3 := h2.sr_shut (x := ⟨⟨0, 62⟩, []⟩) rfl rfl
  have H3 := Lib.hid h3
  clear h h1 h2 h3
  go_enter Try.func35, Try.ntmps35
  go_wp2
  go_ret
  rw [show (Value.pointer (some ⟨w.heap.size, 0, none⟩)) = ptr w.heap.size from rfl, sc0_set]
  exact ⟨_, rfl, H3.out⟩

theorem rs_auditP (r : Nat) (x : Sr) (l : List Ef) (w0 w : World) (R : HP) (h : St w0 w (SR r x l * R)) :
    Calls Try.prog 61 #[ptr r] w fun e w' => e = .returned (.tuple #[]) ∧ St w0 w' (SR r x.audit.1 x.audit.2 * R) := by
  obtain ⟨p, v, h1⟩ := h.sr_open
  have c257 := (h1.cell 257).trans (sc_v _ _ _)
  have f257 := h1.free
  have h2 := (h1.set 257 (.slice none 0 0)).f3.drop
  rw [sc_set_v] at h2
  have h3 := ((h2.l_nil TE15 5 Ef.cells).b3).sr_shut (x := x) rfl rfl
  clear h2
  go_enter Try.func61, Try.ntmps61
  go_wp2_with fail
  refine (rs_audit r x [] (by simp) _ _ _ h3).mono ?_
  rintro e w4 ⟨rfl, h4⟩
  rw [List.nil_append] at h4
  go_wp2
  go_end0
  exact ⟨rfl, h4⟩

/-- what is always so -/
structure RSOk (x : Sr) : Prop where
  ok : x.Ok
  nd : (x.checks.map (·.1)).Nodup
theorem RSOk.pos {x : Sr} (h : RSOk x) {t : Int} {c : Chk} (hc : mlook x.checks t = some c) : 0 < c.asked := by
  have := h.ok.all _ (mlook_mem hc)
  simp only [] at this
  omega
theorem RSOk.rng {x : Sr} (h : RSOk x) {t : Int} {c : Chk} (hc : mlook x.checks t = some c) : 64 ≤ t ∧ t ≤ 126 := by
  have := h.ok.all _ (mlook_mem hc)
  simp only [] at this
  omega
theorem RSOk.same {x : Sr} (h : RSOk x) {t : Int} {c : Chk} (hc : mlook x.checks t = some c) : c.tei = t := by
  have := h.ok.all _ (mlook_mem hc)
  simp only [] at this
  exact this.1

theorem rs_checkP (r : Nat) (x : Sr) (l : List Ef) (t : Int) (ok : RSOk x) (w0 w : World) (R : HP) (h : St w0 w (SR r x l * R)) :
    Calls Try.prog 59 #[ptr r, .int .i64 t] w fun e w' => e = .returned (.int .i64 (x.check t).2.2) ∧ St w0 w' (SR r (x.check t).1 (x.check t).2.1 * R) := by
  obtain ⟨p, v, h1⟩ := h.sr_open
  have c257 := (h1.cell 257).trans (sc_v _ _ _)
  have f257 := h1.free
  have h2 := (h1.set 257 (.slice none 0 0)).f3.drop
  rw [sc_set_v] at h2
  have h3 := ((h2.l_nil TE15 5 Ef.cells).b3).sr_shut (x := x) rfl rfl
  clear h2
  obtain ⟨p1, v1, h4⟩ := h3.sr_open
  have c0 := (h4.cell 0).trans (sc_p _ _ _)
  have hh := ph_has p1 x.pool t w0 _ _ h4.f2
  unfold Sr.check
  cases hb : x.pool.has t with
  | false =>
    rw [if_pos rfl]
    rw [hb] at hh
    go_enter Try.func59, Try.ntmps59
    go_upto_region 2 with fail
    clear c257 f257 h1 h
    generalize w.setCell _ _ = w3 at *
    go_wp2_with fail
    refine hh.mono ?_
    rintro e w5 ⟨rfl, h5⟩
    go_wp2
    go_ret
    exact ⟨rfl, h5.f2.sr_shut rfl rfl⟩
  | true =>
    rw [if_neg (by simp)]
    rw [hb] at hh
    have hr := has_range hb
    obtain ⟨i, rfl⟩ : ∃ i : Nat, t = (i : Int) := ⟨t.toNat, by omega⟩
    have hi : i < 128 := by omega
    cases hm : mlook x.checks (i : Int) with
    | some c =>
      have hpos := ok.pos hm
      obtain ⟨ct, cka, ckn⟩ := c
      simp only [] at hpos ⊢
      have e1 : (chkN x.checks i).1 = cka := by unfold chkN; rw [hm]
      have b1 : decide (0 < cka) = true := by simpa using hpos
      go_enter Try.func59, Try.ntmps59
      go_upto_region 2 with fail
      clear c257 f257 h1 h
      generalize w.setCell _ _ = w3 at *
      go_wp2_with fail
      refine hh.mono ?_
      rintro e w5 ⟨rfl, h5⟩
      have h7 := h5.f2.sr_shut (x := x) rfl rfl
      obtain ⟨p2, v2, h6⟩ := (h7).sr_open
      have ca := (h6.cell (1 + i * 2)).trans (sc_a _ _ _ hi)
      have cn := (h6.cell (1 + i * 2 + 1)).trans (sc_n _ _ _ hi)
      have f2 := h6.free
      rw [e1] at ca
      clear c0 e1 hm hpos
      go_wp2
      go_ret
      exact ⟨rfl, h7⟩
    | none =>
      have e1 : (chkN x.checks i).1 = 0 := by unfold chkN; rw [hm]
      have hask : x.ask (i : Int) = (⟨x.pool, mput x.checks (i : Int) ⟨(i : Int), 1, 0⟩⟩, [.said 4 0 (i : Int), .of 3 (i : Int)]) := by unfold Sr.ask; rw [hm]; rfl
      simp only []
      rw [hask]
      go_enter Try.func59, Try.ntmps59
      go_upto_region 2 with fail
      clear c257 f257 h1 h
      generalize w.setCell _ _ = w3 at *
      go_wp2_with fail
      refine hh.mono ?_
      rintro e w5 ⟨rfl, h5⟩
      have h7 := h5.f2.sr_shut (x := x) rfl rfl
      obtain ⟨p2, v2, h6⟩ := (h7).sr_open
      have ca := (h6.cell (1 + i * 2)).trans (sc_a _ _ _ hi)
      have cn := (h6.cell (1 + i * 2 + 1)).trans (sc_n _ _ _ hi)
      have f2 := h6.free
      rw [e1] at ca
      clear c0 e1 hm hask
      go_wp2_with fail
      refine (rs_check r x [] i hi (by simp) _ _ _ h7).mono ?_
      rintro e w8 ⟨rfl, h8⟩
      go_wp2
      go_ret
      exact ⟨rfl, h8⟩

theorem rs_removeP (r : Nat) (x : Sr) (l : List Ef) (t : Int) (ok : RSOk x) (w0 w : World) (R : HP) (h : St w0 w (SR r x l * R)) :
    Calls Try.prog 62 #[ptr r, .int .i64 t] w fun e w' => e = .returned (.int .i64 (x.removeP t).2.2) ∧ St w0 w' (SR r (x.removeP t).1 (x.removeP t).2.1 * R) := by
  obtain ⟨p, v, h1⟩ := h.sr_open
  have c257 := (h1.cell 257).trans (sc_v _ _ _)
  have f257 := h1.free
  have h2 := (h1.set 257 (.slice none 0 0)).f3.drop
  rw [sc_set_v] at h2
  have h3 := ((h2.l_nil TE15 5 Ef.cells).b3).sr_shut (x := x) rfl rfl
  clear h2
  unfold Sr.removeP
  by_cases ha : 64 ≤ t ∧ t ≤ 126
  · rw [if_neg (by rw [kind_auto]; simp; exact ha)]
    obtain ⟨i, rfl⟩ : ∃ i : Nat, t = (i : Int) := ⟨t.toNat, by omega⟩
    have hi : i < 128 := by omega
    go_enter Try.func62, Try.ntmps62
    go_upto_region 2 with fail
    clear c257 f257 h1 h
    generalize w.setCell _ _ = w3 at *
    have hq := rs_auto (i : Int) w3
    rw [decide_eq_true ha] at hq
    go_wp2_with fail
    refine hq.mono ?_
    rintro e w5 ⟨rfl, rfl⟩
    go_wp2_with fail
    refine (rs_remove r x [] i hi (by simp) ok.nd (fun c hc => ok.pos hc) _ _ _ h3).mono ?_
    rintro e w6 ⟨rfl, h6⟩
    rw [List.nil_append] at h6
    go_wp2
    go_ret
    exact ⟨rfl, h6⟩
  · rw [if_pos ((kind_auto t).2 ha)]
    go_enter Try.func62, Try.ntmps62
    go_upto_region 2 with fail
    clear c257 f257 h1 h
    generalize w.setCell _ _ = w3 at *
    have hq := rs_auto t w3
    rw [decide_eq_false ha] at hq
    go_wp2_with fail
    refine hq.mono ?_
    rintro e w5 ⟨rfl, rfl⟩
    go_wp2
    go_ret
    exact ⟨rfl, h3⟩
end Go.Proofs.Ytbnbknabedgpcaa
