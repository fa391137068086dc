/- The clock's laws: what all of them ask first; scripts. -/
import Derived.Test.YtbnbknabedgpcaaClockE
import Derived.Test.YtbnbknabedgpcaaLaw
namespace Go.Proofs.Ytbnbknabedgpcaa
open Go.RowKit Go.Sort

/-- one sorted list -/
theorem sortK_eq {l : Tms} {ks ks' : List Key} (hp : ks'.Perm ks) (hs : ks'.Pairwise fun x y => ¬ aheadK l y x) : sortK l ks = ks' := by
  refine List.Perm.eq_of_pairwise (le := fun x y => ¬ aheadK l y x) (fun a b _ _ h1 h2 => ?_) (sortK_sorted l ks) hs ((sortK_perm l ks).trans hp.symm)
  refine totalK l a b ?_ ?_
  · rw [Bool.eq_false_iff]; exact fun h => h2 ((ltOf_cmpK l a b).1 h)
  · rw [Bool.eq_false_iff]; exact fun h => h1 ((ltOf_cmpK l b a).1 h)

theorem ck1 : cstart [] (1, 0) 5 10 = ([((1, 0), 15)], 0) := by kernel_rfl
theorem ck2 : cstart [((1, 0), 15)] (2, 0) 5 3 = ([((1, 0), 15), ((2, 0), 8)], 0) := by kernel_rfl
theorem ck3 {f : Int} {b : Bool} (h : NextIs [((1, 0), 15), ((2, 0), 8)] f b) : f = 8 ∧ b = true := by
  rcases h with ⟨h, _⟩ | ⟨hb, ⟨p, hp, hf⟩, hall⟩
  · cases h
  · refine ⟨?_, hb⟩
    have h1 := hall ((1, 0), 15) (by simp)
    have h2 := hall ((2, 0), 8) (by simp)
    simp at hp
    rcases hp with rfl | rfl <;> simp at * <;> omega
theorem ck4 : dueK [((1, 0), 15), ((2, 0), 8)] 15 = [(2, 0), (1, 0)] := by
  unfold dueK
  refine sortK_eq ?_ ?_
  · decide
  · simp [aheadK, till, mlook]

theorem okK_mk {a b : Int} (h1 : (Lit.int .i64 a).wf = true) (h2 : (Lit.int .i64 b).wf = true) : okK (a, b) := ⟨h1, h2⟩

theorem c_start_to {c : Nat} {l l' : Tms} {k : Key} {now period er : Int} {w0 w : World} {R : HP} (h : St w0 w (CAt c l * R)) (hk : okK k) (e : cstart l k now period = (l', er)) :
    Calls Try.prog 19 #[ptrC c, .agg #[.int .i64 k.1, .int .i64 k.2], .int .i64 now, .int .i64 period] w fun e w' => e = .returned (.int .i64 er) ∧ St w0 w' (CAt c l' * R) := by
  have := c_start c l k hk now period w0 w R h
  rw [e] at this
  exact this

set_option maxRecDepth 100000 in
theorem ck_wakes (w0 w : World) (R : HP) (h : St w0 w R) :
    Calls Try.prog 22 #[] w fun e w' => e = .returned (.bool true) ∧ St w0 w' R := by
  go_enter Try.func22, Try.ntmps22
  go_wp2_with fail
  refine (c_new w0 w R h).mono ?_
  rintro e w1 ⟨c, rfl, h1⟩
  go_wp2_with fail
  refine (c_start_to h1 (k := (1, 0)) ⟨by decide, by decide⟩ ck1).mono ?_
  rintro e w2 ⟨rfl, h2⟩
  go_wp2_with fail
  refine (c_start_to h2 (k := (2, 0)) ⟨by decide, by decide⟩ ck2).mono ?_
  rintro e w3 ⟨rfl, h3⟩
  go_wp2_with fail
  refine (c_next c _ _ _ _ h3).mono ?_
  rintro e w4 ⟨f, b, rfl, hN, h4⟩
  obtain ⟨rfl, rfl⟩ := ck3 hN
  clear hN
  go_wp2_with fail
  refine (c_due c _ 15 _ _ _ h4 (by simp)).mono ?_
  rintro e w5 ⟨v, rfl, h5⟩
  rw [ck4] at h5
  rcases h5.l_cells tyKey.len with ⟨h0, _⟩ | ⟨g, off, cap, rfl, hc, _, hcell⟩
  · cases h0
  have d0 : w5.cell? ⟨g, off, none⟩ = some (.int .i64 2) := hcell 0 _ rfl 0 _ rfl
  have d1 : w5.cell? ⟨g, off + 2, none⟩ = some (.int .i64 1) := hcell 1 _ rfl 0 _ rfl
  clear hcell
  go_wp2
  go_ret
  exact ⟨rfl, h5.drop.drop⟩

theorem key_eq (a b a' b' : Int) (w : World) : (Op.equalIn 10000 43 (.agg #[.int .i64 a, .int .i64 b]) (.agg #[.int .i64 a', .int .i64 b'])).run Try.prog w = .ok (a == a' && b == b') w := by
  rw [run_equalIn_agg (P := Try.prog) w 9999 43 _ _ (by kernel_rfl) (by kernel_rfl)]
  go_simp
  repeat' split
  all_goals simp_all
theorem key_guard (op : BinOp) (x y : Operand) (xs ys : Array Value) (w : World) : (eqGuard op 43 x y (.agg xs) (.agg ys)).run Try.prog w = .ok () w := run_eqGuard_agg (P := Try.prog) w op 43 x y xs ys (by kernel_rfl)

abbrev CkSh : Sh := .pair (.int .i64) (.pair (.int .i64) (.pair (.int .i64) (.pair (.int .i64) (.pair (.int .i64) .unit))))
structure CkAct where
  d : Int
  o : Int
  t : Int
  n : Int
  p : Int
abbrev CkAct.cells (a : CkAct) : Array Value := #[.int .i64 a.d, .int .i64 a.o, .int .i64 a.t, .int .i64 a.n, .int .i64 a.p]
def CkAct.ok (a : CkAct) : Prop := okK (a.o, a.t) ∧ (Lit.int .i64 a.n).wf = true ∧ (Lit.int .i64 a.p).wf = true ∧ (Lit.int .i64 a.d).wf = true
theorem ck_one {w : World} {cs : List Value} (h : CkSh.ok w cs) : ∃ a : CkAct, cs = a.cells.toList ∧ a.ok := by
  obtain ⟨x1, y1, rfl, _, ⟨d, rfl, hd⟩, x2, y2, rfl, _, ⟨o, rfl, ho⟩, x3, y3, rfl, _, ⟨t, rfl, ht⟩, x4, y4, rfl, _, ⟨n, rfl, hn⟩, x5, y5, rfl, _, ⟨p, rfl, hp⟩, hu⟩ := h
  have : y5 = [] := hu
  subst this
  exact ⟨⟨d, o, t, n, p⟩, rfl, ⟨ho, ht⟩, hn, hp, hd⟩
theorem ck_script {w : World} {a : Option Addr} {len cap : Nat} (h : (Sh.slice CkSh).ok w [.slice a len cap]) : len ≤ cap ∧ cap ≤ maxLen ∧ (0 < len → ∃ b off, a = some ⟨b, off, none⟩ ∧ b < w.heap.size ∧
    ∀ i, i < len → ∃ x : CkAct, x.ok ∧ w.cell? ⟨b, off + i * 5, none⟩ = some (.int .i64 x.d) ∧ w.cell? ⟨b, off + i * 5 + 1, none⟩ = some (.int .i64 x.o) ∧ w.cell? ⟨b, off + i * 5 + 2, none⟩ = some (.int .i64 x.t) ∧ w.cell? ⟨b, off + i * 5 + 3, none⟩ = some (.int .i64 x.n) ∧ w.cell? ⟨b, off + i * 5 + 4, none⟩ = some (.int .i64 x.p)) := by
  obtain ⟨h1, h2, h3⟩ := Sh.slice_ok h (by decide)
  refine ⟨h1, h2, fun h0 => ?_⟩
  obtain ⟨b, off, ha, hb, hi⟩ := h3 h0
  refine ⟨b, off, ha, hb, fun i hil => ?_⟩
  obtain ⟨xs, _, hc, hx⟩ := hi i hil
  obtain ⟨x, rfl, ok⟩ := ck_one hx
  exact ⟨x, ok, hc 0 (by decide), hc 1 (by decide), hc 2 (by decide), hc 3 (by decide), hc 4 (by decide)⟩
end Go.Proofs.Ytbnbknabedgpcaa
