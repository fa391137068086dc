/- The reference's source: Timeout, Message. -/
import Derived.Test.YtbnbknabedgpcaaSrcRC
namespace Go.Proofs.Ytbnbknabedgpcaa
open Go.RowKit

set_option maxRecDepth 100000 in
theorem rs_timeout (r : Nat) (x : Sr) (l : List Ef) (t : Int) (ok : RSOk x) (w0 w : World) (R : HP) (h : St w0 w (SR r x l * R)) :
    Calls Try.prog 63 #[ptr r, .int .i64 t] w fun e w' => e = .returned (.tuple #[]) ∧ St w0 w' (SR r (x.timeout t).1 (x.timeout t).2 * R) := by
  obtain ⟨p, v, h1⟩ := h.sr_open
  have c257 := (h1.cell 257).trans (sc_v _ _ _)
  have f257 := h1.free
  have h2 := (h1.set 257 (.slice none 0 0)).f3.drop
  rw [sc_set_v] at h2
  have h3 := ((h2.l_nil TE15 5 Ef.cells).b3).sr_shut (x := x) rfl rfl
  clear h2
  unfold Sr.timeout
  by_cases b1 : t < 0
  · have hm : mlook x.checks t = none := by
      cases hm : mlook x.checks t with
      | none => rfl
      | some c => have := ok.rng hm; omega
    rw [hm]
    have b1' : decide (t < 0) = true := by simpa using b1
    clear b1
    go_enter Try.func63, Try.ntmps63
    go_upto_region 1 with fail
    clear c257 f257 h1 h
    generalize w.setCell _ _ = w3 at *
    go_wp2
    refine bodyPost_ret (v := .tuple #[]) (by simp [results, Try.results63, go_sem]) rfl ⟨rfl, h3⟩
  have b1' : decide (t < 0) = false := by simpa using b1
  by_cases b2 : 127 < t
  · have hm : mlook x.checks t = none := by
      cases hm : mlook x.checks t with
      | none => rfl
      | some c => have := ok.rng hm; omega
    rw [hm]
    have b2' : decide (127 < t) = true := by simpa using b2
    clear b1 b2
    go_enter Try.func63, Try.ntmps63
    go_upto_region 1 with fail
    clear c257 f257 h1 h
    generalize w.setCell _ _ = w3 at *
    go_wp2
    refine bodyPost_ret (v := .tuple #[]) (by simp [results, Try.results63, go_sem]) rfl ⟨rfl, h3⟩
  have b2' : decide (127 < t) = false := by simpa using b2
  obtain ⟨i, rfl⟩ : ∃ i : Nat, t = (i : Int) := ⟨t.toNat, by omega⟩
  have hi : i < 128 := by omega
  clear b1 b2
  cases hm : mlook x.checks (i : Int) with
  | none =>
    have e1 : chkN x.checks i = (0, 0) := by unfold chkN; rw [hm]
    simp only []
    have h7 := (h3.alloc (.cells #[.int .i64 0, .int .i64 0] 85)).drop
    go_enter Try.func63, Try.ntmps63
    go_upto_region 1 with fail
    clear c257 f257 h1 h
    generalize w.setCell _ _ = w3 at *
    obtain ⟨p2, v2, h6⟩ := (h3).sr_open
    have ca := (h6.cell (1 + i * 2)).trans (sc_a _ _ _ hi)
    have cn := (h6.cell (1 + i * 2 + 1)).trans (sc_n _ _ _ hi)
    have f2 := h6.free
    rw [e1] at ca cn
    clear e1 hm h6 f2
    go_wp2
    refine bodyPost_ret (v := .tuple #[]) (by simp [results, Try.results63, go_sem]) rfl ⟨rfl, h7⟩
  | some c =>
    have hsame := ok.same hm
    obtain ⟨ct, cka, ckn⟩ := c
    simp only [] at hsame
    subst hsame
    have hbd := ok.ok.all _ (mlook_mem hm)
    simp only [] at hbd
    have e1 : chkN x.checks i = (cka, ckn) := by unfold chkN; rw [hm]
    have h7 := (h3.alloc (.cells #[.int .i64 cka, .int .i64 ckn] 85))
    have q1 : (cka == 0) = false := by simp; omega
    simp only []
    by_cases hA : 0 < ckn
    · rw [if_neg (by omega), if_pos hA]
      have q2 : decide (0 < ckn) = true := by simpa using hA
      have hcd := chkN_del ok.nd i
      go_enter Try.func63, Try.ntmps63
      go_upto_region 1 with fail
      clear c257 f257 h1 h
      generalize w.setCell _ _ = w3 at *
      obtain ⟨p2, v2, h6⟩ := (h3).sr_open
      have ca := (h6.cell (1 + i * 2)).trans (sc_a _ _ _ hi)
      have cn := (h6.cell (1 + i * 2 + 1)).trans (sc_n _ _ _ hi)
      have f2 := h6.free
      rw [e1] at ca cn
      go_upto_region 3 with fail
      generalize w3.alloc _ = w4 at *
      generalize w3.heap.size = gc at *
      have cc := h7.cell
      clear ca cn f2 h6
      obtain ⟨p3, v3, h8⟩ := h7.f2.sr_open
      have ca := (h8.cell (1 + i * 2)).trans (sc_a _ _ _ hi)
      have cn := (h8.cell (1 + i * 2 + 1)).trans (sc_n _ _ _ hi)
      have f3 := h8.free
      have h9 := (h8.set (1 + i * 2) (.int .i64 0)).set (1 + i * 2 + 1) (.int .i64 0)
      rw [sc_set _ _ _ hi] at h9
      have h10 := (h9.sr_shut (x := ⟨x.pool, mdel x.checks (i : Int)⟩) hcd.symm rfl).f2.drop
      rw [e1] at ca cn
      clear e1 hm hcd h8 h9 h7 h3 hbd hA
      go_wp2
      refine bodyPost_ret (v := .tuple #[]) (by simp [results, Try.results63, go_sem]) rfl ⟨rfl, h10⟩
    · obtain rfl : ckn = 0 := by omega
      have q2 : decide (0 < (0 : Int)) = false := by simp
      by_cases hB : cka = 1
      · subst hB
        rw [if_pos ⟨rfl, rfl⟩]
        have hask : x.ask (i : Int) = (⟨x.pool, mput x.checks (i : Int) ⟨(i : Int), 2, 0⟩⟩, [.said 4 0 (i : Int), .of 3 (i : Int)]) := by unfold Sr.ask; rw [hm]; rfl
        rw [hask]
        go_enter Try.func63, Try.ntmps63
        go_upto_region 1 with fail
        clear c257 f257 h1 h
        generalize w.setCell _ _ = w3 at *
        obtain ⟨p2, v2, h6⟩ := (h3).sr_open
        have ca := (h6.cell (1 + i * 2)).trans (sc_a _ _ _ hi)
        have cn := (h6.cell (1 + i * 2 + 1)).trans (sc_n _ _ _ hi)
        have f2 := h6.free
        rw [e1] at ca cn
        go_upto_region 3 with fail
        generalize w3.alloc _ = w4 at *
        generalize w3.heap.size = gc at *
        have cc := h7.cell
        clear ca cn f2 h6
        obtain ⟨p3, v3, h8⟩ := h7.f2.sr_open
        have ca := (h8.cell (1 + i * 2)).trans (sc_a _ _ _ hi)
        have cn := (h8.cell (1 + i * 2 + 1)).trans (sc_n _ _ _ hi)
        have f3 := h8.free
        have h9 := (h8.set (1 + i * 2) (.int .i64 2)).set (1 + i * 2 + 1) (.int .i64 0)
        rw [sc_set _ _ _ hi] at h9
        have h10 := (h9.sr_shut (x := ⟨x.pool, mput x.checks (i : Int) ⟨(i : Int), 2, 0⟩⟩) (chkN_put _ _ _ _ _).symm rfl).f2.drop
        rw [e1] at ca cn
        clear e1 hm h8 h9 h7 h3 hbd hA hask
        go_wp2_with fail
        refine (rs_say r _ [] 4 0 (i : Int) (by simp) _ _ _ h10).mono ?_
        rintro e w11 ⟨rfl, h11⟩
        go_wp2_with fail
        refine (rs_tell r _ _ 3 (i : Int) (by simp) _ _ _ h11).mono ?_
        rintro e w12 ⟨rfl, h12⟩
        go_wp2
        refine bodyPost_ret (v := .tuple #[]) (by simp [results, Try.results63, go_sem]) rfl ⟨rfl, h12⟩
      · rw [if_neg (by omega), if_neg hA]
        have q3 : (cka == 1) = false := by simpa using hB
        have hcd := chkN_del ok.nd i
        go_enter Try.func63, Try.ntmps63
        go_upto_region 1 with fail
        clear c257 f257 h1 h
        generalize w.setCell _ _ = w3 at *
        obtain ⟨p2, v2, h6⟩ := (h3).sr_open
        have ca := (h6.cell (1 + i * 2)).trans (sc_a _ _ _ hi)
        have cn := (h6.cell (1 + i * 2 + 1)).trans (sc_n _ _ _ hi)
        have f2 := h6.free
        rw [e1] at ca cn
        go_upto_region 3 with fail
        generalize w3.alloc _ = w4 at *
        generalize w3.heap.size = gc at *
        have cc := h7.cell
        clear ca cn f2 h6
        obtain ⟨p3, v3, h8⟩ := h7.f2.sr_open
        have ca := (h8.cell (1 + i * 2)).trans (sc_a _ _ _ hi)
        have cn := (h8.cell (1 + i * 2 + 1)).trans (sc_n _ _ _ hi)
        have f3 := h8.free
        have h9 := (h8.set (1 + i * 2) (.int .i64 0)).set (1 + i * 2 + 1) (.int .i64 0)
        rw [sc_set _ _ _ hi] at h9
        have h10 := (h9.sr_shut (x := ⟨x.pool, mdel x.checks (i : Int)⟩) hcd.symm rfl).f2.drop
        rw [e1] at ca cn
        clear e1 hm hcd h8 h9 h7 h3 hbd hA hB
        go_upto_region 11 with fail
        generalize (w4.setCell _ _).setCell _ _ = w5 at *
        clear ca cn f3 cc
        obtain ⟨p4, v4, h11⟩ := h10.sr_open
        have c0 := (h11.cell 0).trans (sc_p _ _ _)
        go_wp2_with fail
        refine (ph_free p4 x.pool (i : Int) _ _ _ h11.f2).mono ?_
        rintro e w6 ⟨rfl, h12⟩
        have h13 := h12.f2.sr_shut (x := ⟨(x.pool.free (i : Int)).1, mdel x.checks (i : Int)⟩) rfl rfl
        clear h10 h11 h12 c0
        go_wp2_with fail
        refine (rs_tell r _ [] 2 (i : Int) (by simp) _ _ _ h13).mono ?_
        rintro e w14 ⟨rfl, h14⟩
        go_wp2
        go_end0
        exact ⟨rfl, h14⟩
end Go.Proofs.Ytbnbknabedgpcaa
