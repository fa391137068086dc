/- The reference's source: what it has; say, tell, check. -/
import Derived.Test.YtbnbknabedgpcaaPoolR
import Derived.Test.YtbnbknabedgpcaaSrcE
namespace Go.Proofs.Ytbnbknabedgpcaa
open Go.RowKit

abbrev CN := Nat → Int × Int
def ccells (c : CN) : List Value := (List.range 128).flatMap fun i => [.int .i64 (c i).1, .int .i64 (c i).2]
def sc (p : Nat) (c : CN) (v : Value) : Array Value := (ptr p :: (ccells c ++ [v])).toArray
theorem ccells_len (c : CN) : (ccells c).length = 256 := by
  unfold ccells
  rw [encs_len (sz := 2) (fun _ => rfl)]
  simp
theorem ccells_at (c : CN) {i : Nat} (h : i < 128) : (ccells c)[i * 2]? = some (.int .i64 (c i).1) ∧ (ccells c)[i * 2 + 1]? = some (.int .i64 (c i).2) := by
  unfold ccells
  have hr : (List.range 128)[i]? = some i := by simp [h]
  exact ⟨encs_at (sz := 2) (enc := fun i => [Value.int .i64 (c i).1, Value.int .i64 (c i).2]) (fun _ => rfl) (List.range 128) i i 0 hr (by decide), encs_at (sz := 2) (enc := fun i => [Value.int .i64 (c i).1, Value.int .i64 (c i).2]) (fun _ => rfl) (List.range 128) i i 1 hr (by decide)⟩
theorem sc_p (p : Nat) (c : CN) (v : Value) : (sc p c v)[0]? = some (ptr p) := rfl
theorem sc_in (p : Nat) (c : CN) (v : Value) {j : Nat} (h : j < 256) : (sc p c v)[1 + j]? = (ccells c)[j]? := by
  unfold sc
  rw [List.getElem?_toArray, Nat.add_comm, List.getElem?_cons_succ, List.getElem?_append_left (by rw [ccells_len]; exact h)]
theorem sc_a (p : Nat) (c : CN) (v : Value) {i : Nat} (h : i < 128) : (sc p c v)[1 + i * 2]? = some (.int .i64 (c i).1) := by
  rw [sc_in _ _ _ (by omega)]; exact (ccells_at c h).1
theorem sc_n (p : Nat) (c : CN) (v : Value) {i : Nat} (h : i < 128) : (sc p c v)[1 + i * 2 + 1]? = some (.int .i64 (c i).2) := by
  rw [Nat.add_assoc, sc_in _ _ _ (by omega)]; exact (ccells_at c h).2
theorem sc_v (p : Nat) (c : CN) (v : Value) : (sc p c v)[257]? = some v := by
  unfold sc
  rw [List.getElem?_toArray, show 257 = 256 + 1 by rfl, List.getElem?_cons_succ, List.getElem?_append_right (by rw [ccells_len]; exact Nat.le_refl _), ccells_len]
  rfl
theorem sc_size (p : Nat) (c : CN) (v : Value) : (sc p c v).size = 258 := by simp [sc, ccells_len]
theorem sc_ext {a b : Array Value} (ha : a.size = 258) (hb : b.size = 258) (h0 : a[0]? = b[0]?) (h1 : ∀ i, i < 128 → a[1 + i * 2]? = b[1 + i * 2]? ∧ a[1 + i * 2 + 1]? = b[1 + i * 2 + 1]?) (h2 : a[257]? = b[257]?) : a = b := by
  apply Array.ext_getElem?
  intro j
  by_cases j0 : j = 0
  · subst j0; exact h0
  by_cases j1 : j = 257
  · subst j1; exact h2
  by_cases j2 : j < 257
  · by_cases hp : (j - 1) % 2 = 0
    · have := (h1 ((j - 1) / 2) (by omega)).1
      rw [show 1 + (j - 1) / 2 * 2 = j by omega] at this
      exact this
    · have := (h1 ((j - 1) / 2) (by omega)).2
      rw [show 1 + (j - 1) / 2 * 2 + 1 = j by omega] at this
      exact this
  · rw [Array.getElem?_eq_none (by omega), Array.getElem?_eq_none (by omega)]
def updN (c : CN) (i : Nat) (u : Int × Int) : CN := fun j => if j = i then u else c j
theorem sc_set_a (p : Nat) (c : CN) (v : Value) {i : Nat} (h : i < 128) (a : Int) : (sc p c v).setIfInBounds (1 + i * 2) (.int .i64 a) = sc p (updN c i (a, (c i).2)) v := by
  refine sc_ext (by simp [sc_size]) (sc_size _ _ _) ?_ (fun j hj => ⟨?_, ?_⟩) ?_
  · rw [Array.getElem?_setIfInBounds, if_neg (by omega), sc_p, sc_p]
  · rw [Array.getElem?_setIfInBounds, sc_size, sc_a _ _ _ hj, sc_a _ _ _ hj]
    unfold updN
    by_cases e : j = i
    · subst e; rw [if_pos rfl, if_pos (by omega), if_pos rfl]
    · rw [if_neg (by omega), if_neg e]
  · rw [Array.getElem?_setIfInBounds, if_neg (by omega), sc_n _ _ _ hj, sc_n _ _ _ hj]
    unfold updN
    by_cases e : j = i
    · subst e; rw [if_pos rfl]
    · rw [if_neg e]
  · rw [Array.getElem?_setIfInBounds, if_neg (by omega), sc_v, sc_v]
theorem sc_set_n (p : Nat) (c : CN) (v : Value) {i : Nat} (h : i < 128) (n : Int) : (sc p c v).setIfInBounds (1 + i * 2 + 1) (.int .i64 n) = sc p (updN c i ((c i).1, n)) v := by
  refine sc_ext (by simp [sc_size]) (sc_size _ _ _) ?_ (fun j hj => ⟨?_, ?_⟩) ?_
  · rw [Array.getElem?_setIfInBounds, if_neg (by omega), sc_p, sc_p]
  · rw [Array.getElem?_setIfInBounds, if_neg (by omega), sc_a _ _ _ hj, sc_a _ _ _ hj]
    unfold updN
    by_cases e : j = i
    · subst e; rw [if_pos rfl]
    · rw [if_neg e]
  · rw [Array.getElem?_setIfInBounds, sc_size, sc_n _ _ _ hj, sc_n _ _ _ hj]
    unfold updN
    by_cases e : j = i
    · subst e; rw [if_pos rfl, if_pos (by omega), if_pos rfl]
    · rw [if_neg (by omega), if_neg e]
  · rw [Array.getElem?_setIfInBounds, if_neg (by omega), sc_v, sc_v]
theorem updN_upd (c : CN) (i : Nat) (a b : Int × Int) : updN (updN c i a) i b = updN c i b := by
  funext j
  unfold updN
  split <;> rfl
theorem updN_at (c : CN) (i : Nat) (a : Int × Int) : updN c i a i = a := by unfold updN; rw [if_pos rfl]
theorem sc_set (p : Nat) (c : CN) (v : Value) {i : Nat} (h : i < 128) (a n : Int) : ((sc p c v).setIfInBounds (1 + i * 2) (.int .i64 a)).setIfInBounds (1 + i * 2 + 1) (.int .i64 n) = sc p (updN c i (a, n)) v := by
  rw [sc_set_a _ _ _ h, sc_set_n _ _ _ h, updN_upd, updN_at]
theorem sc_set_v (p : Nat) (c : CN) (v u : Value) : (sc p c v).setIfInBounds 257 u = sc p c u := by
  refine sc_ext (by simp [sc_size]) (sc_size _ _ _) ?_ (fun j hj => ⟨?_, ?_⟩) ?_
  · rw [Array.getElem?_setIfInBounds, if_neg (by omega), sc_p, sc_p]
  · rw [Array.getElem?_setIfInBounds, if_neg (by omega), sc_a _ _ _ hj, sc_a _ _ _ hj]
  · rw [Array.getElem?_setIfInBounds, if_neg (by omega), sc_n _ _ _ hj, sc_n _ _ _ hj]
  · rw [Array.getElem?_setIfInBounds, if_pos rfl, if_pos (by rw [sc_size]; omega), sc_v]

/-- a check as the reference has it -/
def chkN (l : List (Int × Chk)) : CN := fun i => match mlook l (i : Int) with | some c => (c.asked, c.ans) | none => (0, 0)
theorem chkN_put (l : List (Int × Chk)) (i : Nat) (a n : Int) (t : Int) : chkN (mput l (i : Int) ⟨t, a, n⟩) = updN (chkN l) i (a, n) := by
  funext j
  unfold chkN updN
  by_cases e : j = i
  · subst e; rw [mlook_mput_same, if_pos rfl]
  · rw [mlook_mput_ne (by omega), if_neg e]
theorem chkN_del {l : List (Int × Chk)} (hn : (l.map (·.1)).Nodup) (i : Nat) : chkN (mdel l (i : Int)) = updN (chkN l) i (0, 0) := by
  funext j
  unfold chkN updN
  by_cases e : j = i
  · subst e; rw [mlook_mdel_same hn, if_pos rfl]
  · rw [mlook_mdel_ne (by omega), if_neg e]
abbrev TS15 : TypeId := 89
abbrev TE15 : TypeId := 150
theorem tyE15 : ETy Try.prog 87 TE15 5 40 Ef.cells :=
  ⟨Try.underlying87, ⟨.agg #[.int .i64 0, .int .i64 0, .int .i64 0, .int .i64 0, .int .i64 0], by kernel_rfl, rfl⟩, fun _ => rfl, fun b u hu => by simp [Ef.cells] at hu; rcases hu with rfl | rfl | rfl | rfl | rfl <;> rfl, by decide, by decide⟩
def SR (r : Nat) (x : Sr) (l : List Ef) : HP := hex fun pv : Nat × Value => blk r (.cells (sc pv.1 (chkN x.checks) pv.2) TS15 (0, 0)) * (PR pv.1 x.pool * LAt TE15 5 Ef.cells pv.2 l)
section
variable {w0 w : World} {R : HP} {r : Nat} {x : Sr} {l : List Ef}
theorem St.sr_open (h : St w0 w (SR r x l * R)) : ∃ p v, St w0 w (blk r (.cells (sc p (chkN x.checks) v) TS15 (0, 0)) * (PR p x.pool * (LAt TE15 5 Ef.cells v l * R))) := by
  obtain ⟨⟨p, v⟩, h⟩ := h.ex
  exact ⟨p, v, h.eq (by rw [star_assoc, star_assoc])⟩
theorem St.sr_shut {p : Nat} {v : Value} {c : CN} {q : Pl} (h : St w0 w (blk r (.cells (sc p c v) TS15 (0, 0)) * (PR p q * (LAt TE15 5 Ef.cells v l * R)))) (hc : c = chkN x.checks) (hq : q = x.pool) : St w0 w (SR r x l * R) := by
  subst hc hq
  exact St.mk_ex (p, v) (h.eq (by simp only [star_assoc]))
end

theorem rs_say (r : Nat) (x : Sr) (l : List Ef) (t ri ai : Int) (hl : l.length ≤ 100000) (w0 w : World) (R : HP) (h : St w0 w (SR r x l * R)) :
    Calls Try.prog 83 #[ptr r, .int .i64 t, .int .i64 ri, .int .i64 ai] w fun e w' => e = .returned (.tuple #[]) ∧ St w0 w' (SR r x (l ++ [.said t ri ai]) * R) := by
  obtain ⟨p, v, h1⟩ := h.sr_open
  have c := (h1.cell 257).trans (sc_v _ _ _)
  have hA := ((h1.alloc (.cells #[.int .i64 0, .int .i64 t, .int .i64 ri, .int .i64 ai, .int .i64 0] TE15)).drop).f3
  clear h h1
  go_enter Try.func83, Try.ntmps83
  go_wp2_with (at_builtin; refine wp_append_elem rfl (.tmp 12) (.tmp 18) rfl tyE15 hA (.said t ri ai) rfl _ rfl (new_cells _ [.int .i64 0, .int .i64 t, .int .i64 ri, .int .i64 ai, .int .i64 0] _ _ (by simp)) (by omega) ?hk; (case' hk => (intro g off cap w8 h8; have c8 := (h8.f2.cell 257).trans (sc_v _ _ _); have f8 := h8.f2.free)))
  go_end0
  have h9 := h8.f2.set 257 (.slice (some ⟨g, off, none⟩) (l.length + 1) cap)
  rw [sc_set_v] at h9
  exact ⟨rfl, h9.m2.sr_shut rfl rfl⟩

theorem rs_tell (r : Nat) (x : Sr) (l : List Ef) (k t : Int) (hl : l.length ≤ 100000) (w0 w : World) (R : HP) (h : St w0 w (SR r x l * R)) :
    Calls Try.prog 84 #[ptr r, .int .i64 k, .int .i64 t] w fun e w' => e = .returned (.tuple #[]) ∧ St w0 w' (SR r x (l ++ [.of k t]) * R) := by
  obtain ⟨p, v, h1⟩ := h.sr_open
  have c := (h1.cell 257).trans (sc_v _ _ _)
  have hA := ((h1.alloc (.cells #[.int .i64 k, .int .i64 0, .int .i64 0, .int .i64 0, .int .i64 t] TE15)).drop).f3
  clear h h1
  go_enter Try.func84, Try.ntmps84
  go_wp2_with (at_builtin; refine wp_append_elem rfl (.tmp 10) (.tmp 14) rfl tyE15 hA (.of k t) rfl _ rfl (new_cells _ [.int .i64 k, .int .i64 0, .int .i64 0, .int .i64 0, .int .i64 t] _ _ (by simp)) (by omega) ?hk; (case' hk => (intro g off cap w8 h8; have c8 := (h8.f2.cell 257).trans (sc_v _ _ _); have f8 := h8.f2.free)))
  go_end0
  have h9 := h8.f2.set 257 (.slice (some ⟨g, off, none⟩) (l.length + 1) cap)
  rw [sc_set_v] at h9
  exact ⟨rfl, h9.m2.sr_shut rfl rfl⟩

theorem rs_auto (t : Int) (w : World) : Calls Try.prog 81 #[.int .i64 t] w fun e w' => e = .returned (.bool (decide (64 ≤ t ∧ t ≤ 126))) ∧ w' = w := by
  by_cases b1 : 64 ≤ t
  · have b1' : decide (64 ≤ t) = true := by simpa using b1
    by_cases b2 : t ≤ 126
    · have b2' : decide (t ≤ 126) = true := by simpa using b2
      rw [decide_eq_true ⟨b1, b2⟩]
      clear b1 b2
      go_enter Try.func81, Try.ntmps81
      go_wp2
      go_ret
      exact ⟨rfl, rfl⟩
    · have b2' : decide (t ≤ 126) = false := by simpa using b2
      rw [decide_eq_false (fun h => b2 h.2)]
      clear b1 b2
      go_enter Try.func81, Try.ntmps81
      go_wp2
      go_ret
      exact ⟨rfl, rfl⟩
  · have b1' : decide (64 ≤ t) = false := by simpa using b1
    rw [decide_eq_false (fun h => b1 h.1)]
    clear b1
    go_enter Try.func81, Try.ntmps81
    go_wp2
    go_ret
    exact ⟨rfl, rfl⟩

/-- a check asks, for the first time -/
theorem rs_check (r : Nat) (x : Sr) (l : List Ef) (i : Nat) (hi : i < 128) (hl : l.length ≤ 90000) (w0 w : World) (R : HP) (h : St w0 w (SR r x l * R)) :
    Calls Try.prog 79 #[ptr r, .int .i64 (i : Int)] w fun e w' => e = .returned (.tuple #[]) ∧ St w0 w' (SR r ⟨x.pool, mput x.checks (i : Int) ⟨(i : Int), 1, 0⟩⟩ (l ++ [.said 4 0 (i : Int), .of 3 (i : Int)]) * R) := by
  obtain ⟨p, v, h1⟩ := h.sr_open
  have ca := (h1.cell (1 + i * 2)).trans (sc_a _ _ _ hi)
  have cn := (h1.cell (1 + i * 2 + 1)).trans (sc_n _ _ _ hi)
  have f := h1.free
  have h2 := (h1.set (1 + i * 2) (.int .i64 1)).set (1 + i * 2 + 1) (.int .i64 0)
  rw [sc_set _ _ _ hi] at h2
  have h3 := h2.sr_shut (x := ⟨x.pool, mput x.checks (i : Int) ⟨(i : Int), 1, 0⟩⟩) (chkN_put _ _ _ _ _).symm rfl
  clear h h1 h2
  go_enter Try.func79, Try.ntmps79
  go_wp2_with fail
  refine (rs_say r _ l 4 0 (i : Int) (by omega) _ _ _ h3).mono ?_
  rintro e w4 ⟨rfl, h4⟩
  go_wp2_with fail
  refine (rs_tell r _ _ 3 (i : Int) (by simp; omega) _ _ _ h4).mono ?_
  rintro e w5 ⟨rfl, h5⟩
  go_wp2
  go_end0
  refine ⟨rfl, ?_⟩
  rw [List.append_assoc] at h5
  exact h5
end Go.Proofs.Ytbnbknabedgpcaa
