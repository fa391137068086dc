/- The reference's mux: Route. -/
import Derived.Test.YtkcclijckpbobaaMuxRB
namespace Go.Proofs.Ytkcclijckpbobaa
open Go.RowKit Go.Sort

theorem insI_len (x : Int) : ∀ l : List Int, (insI x l).length ≤ l.length + 1
  | [] => by simp [insI]
  | a :: l => by
    unfold insI
    split
    · simp
    · split
      · simp
      · have := insI_len x l
        simp only [List.length_cons]
        omega
theorem foldI_len (l : List Int) : ∀ o : List Int, (l.foldl (fun o x => insI x o) o).length ≤ o.length + l.length := by
  induction l with
  | nil => intro o; simp
  | cons x l ih =>
    intro o
    have h1 := ih (insI x o)
    have h2 := insI_len x o
    simp only [List.foldl_cons, List.length_cons]
    omega
theorem setI_len (l : List Int) : (setI l).length ≤ l.length := by
  have := foldI_len l []
  simpa [setI] using this
theorem insI_at {O : List Int} {y : Int} {j : Nat} (hy : O[j]? = some y) (x : Int) : O.drop j = y :: O.drop (j + 1) ∧ insI x (O.drop j) = if y = x then y :: O.drop (j + 1) else if x < y then x :: y :: O.drop (j + 1) else y :: insI x (O.drop (j + 1)) := by
  have hk : j < O.length := (List.getElem?_eq_some_iff.1 hy).1
  have e : O.drop j = y :: O.drop (j + 1) := by
    rw [List.drop_eq_getElem_cons hk]
    rw [List.getElem?_eq_getElem hk] at hy
    rw [Option.some.inj hy]
  refine ⟨e, ?_⟩
  rw [e]
  rfl

set_option maxRecDepth 100000 in
set_option maxHeartbeats 3200000 in
theorem mr_route (r : Nat) (mo : Int) (L : List En) (hL : L.length ≤ 100000) (s t : Int) (w0 w : World) (R : HP) (h : St w0 w (MRef r mo L * R)) :
    Calls Try.prog 13 #[ptrX r, .int .i64 s, .int .i64 t] w fun e w' => ∃ v, e = .returned v ∧ St w0 w' (LAt 3 1 intL v (rroute L (s, t)) * (MRef r mo L * R)) := by
  obtain ⟨v, h1⟩ := h.mr_open
  obtain ⟨a, cap, rfl, _, _⟩ := h1.f2.l_shape
  obtain ⟨m, hm⟩ : ∃ m, L.length = m := ⟨_, rfl⟩
  have hge : ∀ k : Nat, k < m → ∃ x1 x2 u, L[k]? = some ((x1, x2), u) := fun k hk => ⟨L[k].1.1, L[k].1.2, L[k].2, List.getElem?_eq_getElem (by omega)⟩
  have hst : ∀ (j : Nat) (x : En), L[j]? = some x → L.take (j + 1) = L.take j ++ [x] := fun j x hj => by rw [List.take_add_one, hj]; rfl
  have hen : ∀ k : Nat, k = m → L.take k = L := fun k hk => List.take_of_length_le (by omega)
  have hfl : ∀ j : Nat, (setI (((L.take j).filter (fitsR (s, t))).map (·.2))).length ≤ j := fun j => by
    have h1 := setI_len (((L.take j).filter (fitsR (s, t))).map (·.2))
    have h2 := List.length_filter_le (fitsR (s, t)) (L.take j)
    simp only [List.length_map, List.length_take] at h1 h2
    omega
  rw [hm] at h1 hL
  have HGE := Lib.hid hge
  have HST := Lib.hid hst
  have HEN := Lib.hid hen
  have HFL := Lib.hid hfl
  clear hge hst hen hfl h hm
  unfold rroute
  go_enter Try.func13, Try.ntmps13
  go_wp2
  go_loopw [7, 8] (fun s7 i wr => ∃ k : Nat, k ≤ m ∧ i = .int .i64 k ∧ St w0 wr (LAt 3 1 intL s7 (setI (((L.take k).filter (fitsR (s, t))).map (·.2))) * (blk r (.cells #[.int .i64 mo, .slice a m cap] 65 (0, 0)) * (LAt 41 3 enC (.slice a m cap) L * R)))) (fun _ i _ => m - (intOf i).toNat)
  case atStart => exact ⟨0, by omega, rfl, h1.l_nil _ _ _⟩
  case round =>
    clear h1
    obtain ⟨k, hk, rfl, h2⟩ := hrel
    have c := h2.f2.cell
    by_cases hlt : k < m
    · obtain ⟨x1, x2, u, hx⟩ := HGE.out k hlt
      obtain ⟨O, hO⟩ : ∃ O, setI (((L.take k).filter (fitsR (s, t))).map (·.2)) = O := ⟨_, rfl⟩
      have hf := HFL.out k
      rw [hO] at h2 hf
      have HO := Lib.hid hO
      clear hO
      obtain ⟨a7, cap7, rfl, _, _⟩ := h2.l_shape
      rcases (h2.f3).l_cells tyEn.len with ⟨h0, _⟩ | ⟨g, off, cp, hv, _, _, hcell⟩
      · first | (cases h0; done) | (rw [h0] at hx; simp at hx; done)
      simp only [Value.slice.injEq] at hv
      obtain ⟨rfl, hq, rfl⟩ := hv
      clear hq
      have d0 : wr.cell? ⟨g, off + k * 3, none⟩ = some (.int .i64 x1) := hcell _ _ hx 0 _ rfl
      have d1 : wr.cell? ⟨g, off + k * 3 + 1, none⟩ = some (.int .i64 x2) := hcell _ _ hx 1 _ rfl
      have d2 : wr.cell? ⟨g, off + k * 3 + 2, none⟩ = some (.int .i64 u) := hcell _ _ hx 2 _ rfl
      clear hcell
      have h7 := (h2.alloc (.cells #[.int .i64 x1, .int .i64 x2, .int .i64 u] 41)).f2
      go_upto_region 6 with fail
      generalize wr.alloc _ = w7 at *
      generalize wr.heap.size = gx at *
      clear c d0 d1 d2 h2
      have cx := h7.f2.cell
      by_cases e1 : x1 = s
      · have q1 : (x1 == s) = true := by simpa using e1
        have q1' : (x1 != s) = false := by simpa using e1
        by_cases e2 : t = 127
        · have q2 : (t == 127) = true := by simpa using e2
          have q2' : (t != 127) = false := by simpa using e2
          have hfit : fitsR (s, t) ((x1, x2), u) = true := by simp [fitsR, e1, e2]
          clear e1 e2
          have hQ : setI (((L.take (k + 1)).filter (fitsR (s, t))).map (·.2)) = insI u O := by
            rw [HST.out k _ hx, List.filter_append, List.filter_cons_of_pos hfit, List.filter_nil, List.map_append, List.map_cons, List.map_nil, setI_snoc, HO.out]
          obtain ⟨Q, hQ2⟩ : ∃ Q, insI u O = Q := ⟨_, rfl⟩
          rw [hQ2] at hQ
          have HQ := Lib.hid hQ
          have HQ2 := Lib.hid hQ2
          obtain ⟨n, hn⟩ : ∃ n, O.length = n := ⟨_, rfl⟩
          have hgo : ∀ j : Nat, j < n → ∃ y, O[j]? = some y := fun j hj => ⟨_, List.getElem?_eq_getElem (by omega)⟩
          have heo : ∀ j : Nat, j = n → O.drop j = [] := fun j hj => List.drop_eq_nil_of_le (by omega)
          rw [hn] at h7 hf ⊢
          have HGO := Lib.hid hgo
          have HEO := Lib.hid heo
          clear hx hfit hQ hQ2 hn hgo heo
          have h77 := h7.l_nil 3 1 intL
          go_wp2
          go_loopw [10, 11, 12] (fun s10 s11 i wr => ∃ (j : Nat) (acc : List Int) (put : Bool), j ≤ n ∧ i = .int .i64 j ∧ s11 = .bool put ∧ acc.length ≤ 2 * j ∧ Hid (Q = if put = true then acc ++ O.drop j else acc ++ insI u (O.drop j)) ∧ St w0 wr (LAt 3 1 intL s10 acc * (LAt 3 1 intL (.slice a7 n cap7) O * (blk gx (.cells #[.int .i64 x1, .int .i64 x2, .int .i64 u] 41 (0, 0)) * (blk r (.cells #[.int .i64 mo, .slice (some ⟨g, off, none⟩) m cap] 65 (0, 0)) * (LAt 41 3 enC (.slice (some ⟨g, off, none⟩) m cap) L * R)))))) (fun _ _ i _ => n - (intOf i).toNat)
          case atStart => exact ⟨0, [], false, by omega, rfl, rfl, by simp, Lib.hid (by rw [HQ2.out.symm]; simp), h77⟩
          case round =>
            clear h7 h77 cx
            obtain ⟨j, acc, put, hj, rfl, rfl, hal, HI, h8⟩ := hrel
            obtain ⟨a5, cap5, rfl, _, _⟩ := h8.l_shape
            by_cases hlj : j < n
            · obtain ⟨y, hy⟩ := HGO.out j hlj
              obtain ⟨hds, hrs⟩ := insI_at hy u
              rcases h8.f2.l_cells tyZ.len with ⟨h0, _⟩ | ⟨g2, off2, cp2, hv2, _, _, _⟩
              · rw [h0] at hy; simp at hy
              simp only [Value.slice.injEq] at hv2
              obtain ⟨rfl, hq2, rfl⟩ := hv2
              clear hq2
              have cx := (h8).f3.cell
              have d0 : (wr).cell? ⟨g2, off2 + j, none⟩ = some (.int .i64 y) := by
                rcases (h8).f2.l_cells tyZ.len with ⟨h0, _⟩ | ⟨g5, off5, cp5, hv5, _, _, hcell⟩
                · rw [h0] at hy; simp at hy
                simp only [Value.slice.injEq, Option.some.injEq, Addr.mk.injEq] at hv5
                obtain ⟨⟨rfl, rfl, _⟩, hq5, rfl⟩ := hv5
                have := hcell j _ hy 0 _ rfl
                simpa using this
              by_cases e4 : y = u
              · have q4 : (y == u) = true := by simpa using e4
                have HN := Lib.hid (show Q = (acc ++ [y]) ++ O.drop (j + 1) by
                  rw [HI.out]
                  cases put
                  · rw [if_neg (by simp), hrs, if_pos e4]; simp
                  · rw [if_pos rfl, hds]; simp)
                clear hds hrs e4
                go_upto_region 12 with fail
                go_quiet (fail)
                have h9 := h8.drewN nq
                clear cx d0 h8
                generalize wr.drewN nq = w9 at *
                clear nq
                have cx := (h9).f3.cell
                have d0 : (w9).cell? ⟨g2, off2 + j, none⟩ = some (.int .i64 y) := by
                  rcases (h9).f2.l_cells tyZ.len with ⟨h0, _⟩ | ⟨g5, off5, cp5, hv5, _, _, hcell⟩
                  · rw [h0] at hy; simp at hy
                  simp only [Value.slice.injEq, Option.some.injEq, Addr.mk.injEq] at hv5
                  obtain ⟨⟨rfl, rfl, _⟩, hq5, rfl⟩ := hv5
                  have := hcell j _ hy 0 _ rfl
                  simpa using this
                go_upto_region 14 with fail
                go_quiet (fail)
                have h10 := h9.drewN nq
                clear cx d0 h9
                generalize w9.drewN nq = w10 at *
                clear nq
                have cx := (h10).f3.cell
                have d0 : (w10).cell? ⟨g2, off2 + j, none⟩ = some (.int .i64 y) := by
                  rcases (h10).f2.l_cells tyZ.len with ⟨h0, _⟩ | ⟨g5, off5, cp5, hv5, _, _, hcell⟩
                  · rw [h0] at hy; simp at hy
                  simp only [Value.slice.injEq, Option.some.injEq, Addr.mk.injEq] at hv5
                  obtain ⟨⟨rfl, rfl, _⟩, hq5, rfl⟩ := hv5
                  have := hcell j _ hy 0 _ rfl
                  simpa using this
                go_upto_region 17 with fail
                have hA := ((h10).alloc (.cells #[.int .i64 y] 3)).drop
                go_wp2_with (at_builtin; refine wp_append_elem rfl (.tmp 72) (.tmp 77) rfl tyZ hA y rfl _ rfl (new_cells _ [.int .i64 y] _ _ (by simp)) ?n1ab ?n1a; (case' n1a => (intro g4 off4 cap4 w9 h9)))
                case n1ab => ((try simp); omega)
                go_roundw
                case measure => simp [intOf]; omega
                case rel => exact ⟨j + 1, _, true, by omega, by go_num, rfl, by simp; omega, by rw [if_pos rfl]; exact HN, h9⟩
              · have q4 : (y == u) = false := by simpa using e4
                cases put with
                | true =>
                  have HN := Lib.hid (show Q = (acc ++ [y]) ++ O.drop (j + 1) by rw [HI.out, if_pos rfl, hds]; simp)
                  clear hds hrs e4
                  go_upto_region 12 with fail
                  go_quiet (fail)
                  have h9 := h8.drewN nq
                  clear cx d0 h8
                  generalize wr.drewN nq = w9 at *
                  clear nq
                  have cx := (h9).f3.cell
                  have d0 : (w9).cell? ⟨g2, off2 + j, none⟩ = some (.int .i64 y) := by
                    rcases (h9).f2.l_cells tyZ.len with ⟨h0, _⟩ | ⟨g5, off5, cp5, hv5, _, _, hcell⟩
                    · rw [h0] at hy; simp at hy
                    simp only [Value.slice.injEq, Option.some.injEq, Addr.mk.injEq] at hv5
                    obtain ⟨⟨rfl, rfl, _⟩, hq5, rfl⟩ := hv5
                    have := hcell j _ hy 0 _ rfl
                    simpa using this
                  go_upto_region 14 with fail
                  go_quiet (fail)
                  have h10 := h9.drewN nq
                  clear cx d0 h9
                  generalize w9.drewN nq = w10 at *
                  clear nq
                  have cx := (h10).f3.cell
                  have d0 : (w10).cell? ⟨g2, off2 + j, none⟩ = some (.int .i64 y) := by
                    rcases (h10).f2.l_cells tyZ.len with ⟨h0, _⟩ | ⟨g5, off5, cp5, hv5, _, _, hcell⟩
                    · rw [h0] at hy; simp at hy
                    simp only [Value.slice.injEq, Option.some.injEq, Addr.mk.injEq] at hv5
                    obtain ⟨⟨rfl, rfl, _⟩, hq5, rfl⟩ := hv5
                    have := hcell j _ hy 0 _ rfl
                    simpa using this
                  go_upto_region 17 with fail
                  have hA := ((h10).alloc (.cells #[.int .i64 y] 3)).drop
                  go_wp2_with (at_builtin; refine wp_append_elem rfl (.tmp 72) (.tmp 77) rfl tyZ hA y rfl _ rfl (new_cells _ [.int .i64 y] _ _ (by simp)) ?n1cb ?n1c; (case' n1c => (intro g4 off4 cap4 w9 h9)))
                  case n1cb => ((try simp); omega)
                  go_roundw
                  case measure => simp [intOf]; omega
                  case rel => exact ⟨j + 1, _, true, by omega, by go_num, rfl, by simp; omega, by rw [if_pos rfl]; exact HN, h9⟩
                | false =>
                  by_cases e5 : u < y
                  · have q5 : decide (u < y) = true := by simpa using e5
                    have HN := Lib.hid (show Q = (acc ++ [u] ++ [y]) ++ O.drop (j + 1) by rw [HI.out, if_neg (by simp), hrs, if_neg e4, if_pos e5]; simp)
                    clear hds hrs e4 e5
                    go_upto_region 12 with fail
                    go_quiet (fail)
                    have h9 := h8.drewN nq
                    clear cx d0 h8
                    generalize wr.drewN nq = w9 at *
                    clear nq
                    have cx := (h9).f3.cell
                    have d0 : (w9).cell? ⟨g2, off2 + j, none⟩ = some (.int .i64 y) := by
                      rcases (h9).f2.l_cells tyZ.len with ⟨h0, _⟩ | ⟨g5, off5, cp5, hv5, _, _, hcell⟩
                      · rw [h0] at hy; simp at hy
                      simp only [Value.slice.injEq, Option.some.injEq, Addr.mk.injEq] at hv5
                      obtain ⟨⟨rfl, rfl, _⟩, hq5, rfl⟩ := hv5
                      have := hcell j _ hy 0 _ rfl
                      simpa using this
                    go_upto_region 14 with fail
                    go_quiet (fail)
                    have h10 := h9.drewN nq
                    clear cx d0 h9
                    generalize w9.drewN nq = w10 at *
                    clear nq
                    have cx := (h10).f3.cell
                    have d0 : (w10).cell? ⟨g2, off2 + j, none⟩ = some (.int .i64 y) := by
                      rcases (h10).f2.l_cells tyZ.len with ⟨h0, _⟩ | ⟨g5, off5, cp5, hv5, _, _, hcell⟩
                      · rw [h0] at hy; simp at hy
                      simp only [Value.slice.injEq, Option.some.injEq, Addr.mk.injEq] at hv5
                      obtain ⟨⟨rfl, rfl, _⟩, hq5, rfl⟩ := hv5
                      have := hcell j _ hy 0 _ rfl
                      simpa using this
                    have hX := (h10.alloc (.cells #[.int .i64 u] 3)).drop
                    go_upto_region 17 with (at_builtin; refine wp_append_elem rfl (.tmp 67) (.tmp 70) rfl tyZ hX u rfl _ rfl (new_cells _ [.int .i64 u] _ _ (by simp)) ?n1d ?n1e; (case' n1e => (intro g3 off3 cap3 w8 h8)))
                    case n1d => omega
                    clear cx d0 hX h10
                    have cx := (h8).f3.cell
                    have d0 : (w8).cell? ⟨g2, off2 + j, none⟩ = some (.int .i64 y) := by
                      rcases (h8).f2.l_cells tyZ.len with ⟨h0, _⟩ | ⟨g5, off5, cp5, hv5, _, _, hcell⟩
                      · rw [h0] at hy; simp at hy
                      simp only [Value.slice.injEq, Option.some.injEq, Addr.mk.injEq] at hv5
                      obtain ⟨⟨rfl, rfl, _⟩, hq5, rfl⟩ := hv5
                      have := hcell j _ hy 0 _ rfl
                      simpa using this
                    have hA := ((h8).alloc (.cells #[.int .i64 y] 3)).drop
                    go_wp2_with (at_builtin; refine wp_append_elem rfl (.tmp 72) (.tmp 77) rfl tyZ hA y rfl _ rfl (new_cells _ [.int .i64 y] _ _ (by simp)) ?n1fb ?n1f; (case' n1f => (intro g4 off4 cap4 w9 h9)))
                    case n1fb => ((try simp); omega)
                    go_roundw
                    case measure => simp [intOf]; omega
                    case rel =>
                      simp only [List.length_append, List.length_singleton] at h9
                      exact ⟨j + 1, acc ++ [u] ++ [y], true, by omega, by go_num, rfl, by simp; omega, by rw [if_pos rfl]; exact HN, h9⟩
                  · have q5 : decide (u < y) = false := by simpa using e5
                    have HN := Lib.hid (show Q = (acc ++ [y]) ++ insI u (O.drop (j + 1)) by rw [HI.out, if_neg (by simp), hrs, if_neg e4, if_neg e5]; simp)
                    clear hds hrs e4 e5
                    go_upto_region 12 with fail
                    go_quiet (fail)
                    have h9 := h8.drewN nq
                    clear cx d0 h8
                    generalize wr.drewN nq = w9 at *
                    clear nq
                    have cx := (h9).f3.cell
                    have d0 : (w9).cell? ⟨g2, off2 + j, none⟩ = some (.int .i64 y) := by
                      rcases (h9).f2.l_cells tyZ.len with ⟨h0, _⟩ | ⟨g5, off5, cp5, hv5, _, _, hcell⟩
                      · rw [h0] at hy; simp at hy
                      simp only [Value.slice.injEq, Option.some.injEq, Addr.mk.injEq] at hv5
                      obtain ⟨⟨rfl, rfl, _⟩, hq5, rfl⟩ := hv5
                      have := hcell j _ hy 0 _ rfl
                      simpa using this
                    go_upto_region 14 with fail
                    go_quiet (fail)
                    have h10 := h9.drewN nq
                    clear cx d0 h9
                    generalize w9.drewN nq = w10 at *
                    clear nq
                    have cx := (h10).f3.cell
                    have d0 : (w10).cell? ⟨g2, off2 + j, none⟩ = some (.int .i64 y) := by
                      rcases (h10).f2.l_cells tyZ.len with ⟨h0, _⟩ | ⟨g5, off5, cp5, hv5, _, _, hcell⟩
                      · rw [h0] at hy; simp at hy
                      simp only [Value.slice.injEq, Option.some.injEq, Addr.mk.injEq] at hv5
                      obtain ⟨⟨rfl, rfl, _⟩, hq5, rfl⟩ := hv5
                      have := hcell j _ hy 0 _ rfl
                      simpa using this
                    go_upto_region 17 with fail
                    have hA := ((h10).alloc (.cells #[.int .i64 y] 3)).drop
                    go_wp2_with (at_builtin; refine wp_append_elem rfl (.tmp 72) (.tmp 77) rfl tyZ hA y rfl _ rfl (new_cells _ [.int .i64 y] _ _ (by simp)) ?n1gb ?n1g; (case' n1g => (intro g4 off4 cap4 w9 h9)))
                    case n1gb => ((try simp); omega)
                    go_roundw
                    case measure => simp [intOf]; omega
                    case rel => exact ⟨j + 1, _, false, by omega, by go_num, rfl, by simp; omega, by rw [if_neg (by simp)]; exact HN, h9⟩
            · have hd := HEO.out j (by omega)
              have cx := h8.f3.cell
              cases put with
              | true =>
                have hq : Q = acc := by rw [HI.out, if_pos rfl, hd]; simp
                have HQ3 := Lib.hid hq
                clear hq hd
                go_wp2
                go_roundw
                case rel =>
                  refine ⟨k + 1, by omega, by go_num, ?_⟩
                  rw [HQ.out, HQ3.out]
                  exact h8.f2.drop.f2.drop
                case measure => simp [intOf]; omega
              | false =>
                have hq : Q = acc ++ [u] := by rw [HI.out, if_neg (by simp), hd]; rfl
                have HQ3 := Lib.hid hq
                clear hq hd
                have hX := (h8.alloc (.cells #[.int .i64 u] 3)).drop
                go_wp2_with (at_builtin; refine wp_append_elem rfl (.tmp 81) (.tmp 84) rfl tyZ hX u rfl _ rfl (new_cells _ [.int .i64 u] _ _ (by simp)) ?n1h ?n1i; (case' n1i => (intro g3 off3 cap3 w8 h9)))
                case n1h => omega
                go_roundw
                case rel =>
                  refine ⟨k + 1, by omega, by go_num, ?_⟩
                  rw [HQ.out, HQ3.out]
                  exact h9.f2.drop.f2.drop
                case measure => simp [intOf]; omega
        · have q2 : (t == 127) = false := by simpa using e2
          have q2' : (t != 127) = true := by simpa using e2
          by_cases e3 : x2 = t
          · have q3 : (x2 == t) = true := by simpa using e3
            have q3' : (x2 != t) = false := by simpa using e3
            have hfit : fitsR (s, t) ((x1, x2), u) = true := by simp [fitsR, e1, e3]
            clear e1 e2 e3
            have hQ : setI (((L.take (k + 1)).filter (fitsR (s, t))).map (·.2)) = insI u O := by
              rw [HST.out k _ hx, List.filter_append, List.filter_cons_of_pos hfit, List.filter_nil, List.map_append, List.map_cons, List.map_nil, setI_snoc, HO.out]
            obtain ⟨Q, hQ2⟩ : ∃ Q, insI u O = Q := ⟨_, rfl⟩
            rw [hQ2] at hQ
            have HQ := Lib.hid hQ
            have HQ2 := Lib.hid hQ2
            obtain ⟨n, hn⟩ : ∃ n, O.length = n := ⟨_, rfl⟩
            have hgo : ∀ j : Nat, j < n → ∃ y, O[j]? = some y := fun j hj => ⟨_, List.getElem?_eq_getElem (by omega)⟩
            have heo : ∀ j : Nat, j = n → O.drop j = [] := fun j hj => List.drop_eq_nil_of_le (by omega)
            rw [hn] at h7 hf ⊢
            have HGO := Lib.hid hgo
            have HEO := Lib.hid heo
            clear hx hfit hQ hQ2 hn hgo heo
            have h77 := h7.l_nil 3 1 intL
            go_wp2
            go_loopw [10, 11, 12] (fun s10 s11 i wr => ∃ (j : Nat) (acc : List Int) (put : Bool), j ≤ n ∧ i = .int .i64 j ∧ s11 = .bool put ∧ acc.length ≤ 2 * j ∧ Hid (Q = if put = true then acc ++ O.drop j else acc ++ insI u (O.drop j)) ∧ St w0 wr (LAt 3 1 intL s10 acc * (LAt 3 1 intL (.slice a7 n cap7) O * (blk gx (.cells #[.int .i64 x1, .int .i64 x2, .int .i64 u] 41 (0, 0)) * (blk r (.cells #[.int .i64 mo, .slice (some ⟨g, off, none⟩) m cap] 65 (0, 0)) * (LAt 41 3 enC (.slice (some ⟨g, off, none⟩) m cap) L * R)))))) (fun _ _ i _ => n - (intOf i).toNat)
            case atStart => exact ⟨0, [], false, by omega, rfl, rfl, by simp, Lib.hid (by rw [HQ2.out.symm]; simp), h77⟩
            case round =>
              clear h7 h77 cx
              obtain ⟨j, acc, put, hj, rfl, rfl, hal, HI, h8⟩ := hrel
              obtain ⟨a5, cap5, rfl, _, _⟩ := h8.l_shape
              by_cases hlj : j < n
              · obtain ⟨y, hy⟩ := HGO.out j hlj
                obtain ⟨hds, hrs⟩ := insI_at hy u
                rcases h8.f2.l_cells tyZ.len with ⟨h0, _⟩ | ⟨g2, off2, cp2, hv2, _, _, _⟩
                · rw [h0] at hy; simp at hy
                simp only [Value.slice.injEq] at hv2
                obtain ⟨rfl, hq2, rfl⟩ := hv2
                clear hq2
                have cx := (h8).f3.cell
                have d0 : (wr).cell? ⟨g2, off2 + j, none⟩ = some (.int .i64 y) := by
                  rcases (h8).f2.l_cells tyZ.len with ⟨h0, _⟩ | ⟨g5, off5, cp5, hv5, _, _, hcell⟩
                  · rw [h0] at hy; simp at hy
                  simp only [Value.slice.injEq, Option.some.injEq, Addr.mk.injEq] at hv5
                  obtain ⟨⟨rfl, rfl, _⟩, hq5, rfl⟩ := hv5
                  have := hcell j _ hy 0 _ rfl
                  simpa using this
                by_cases e4 : y = u
                · have q4 : (y == u) = true := by simpa using e4
                  have HN := Lib.hid (show Q = (acc ++ [y]) ++ O.drop (j + 1) by
                    rw [HI.out]
                    cases put
                    · rw [if_neg (by simp), hrs, if_pos e4]; simp
                    · rw [if_pos rfl, hds]; simp)
                  clear hds hrs e4
                  go_upto_region 12 with fail
                  go_quiet (fail)
                  have h9 := h8.drewN nq
                  clear cx d0 h8
                  generalize wr.drewN nq = w9 at *
                  clear nq
                  have cx := (h9).f3.cell
                  have d0 : (w9).cell? ⟨g2, off2 + j, none⟩ = some (.int .i64 y) := by
                    rcases (h9).f2.l_cells tyZ.len with ⟨h0, _⟩ | ⟨g5, off5, cp5, hv5, _, _, hcell⟩
                    · rw [h0] at hy; simp at hy
                    simp only [Value.slice.injEq, Option.some.injEq, Addr.mk.injEq] at hv5
                    obtain ⟨⟨rfl, rfl, _⟩, hq5, rfl⟩ := hv5
                    have := hcell j _ hy 0 _ rfl
                    simpa using this
                  go_upto_region 14 with fail
                  go_quiet (fail)
                  have h10 := h9.drewN nq
                  clear cx d0 h9
                  generalize w9.drewN nq = w10 at *
                  clear nq
                  have cx := (h10).f3.cell
                  have d0 : (w10).cell? ⟨g2, off2 + j, none⟩ = some (.int .i64 y) := by
                    rcases (h10).f2.l_cells tyZ.len with ⟨h0, _⟩ | ⟨g5, off5, cp5, hv5, _, _, hcell⟩
                    · rw [h0] at hy; simp at hy
                    simp only [Value.slice.injEq, Option.some.injEq, Addr.mk.injEq] at hv5
                    obtain ⟨⟨rfl, rfl, _⟩, hq5, rfl⟩ := hv5
                    have := hcell j _ hy 0 _ rfl
                    simpa using this
                  go_upto_region 17 with fail
                  have hA := ((h10).alloc (.cells #[.int .i64 y] 3)).drop
                  go_wp2_with (at_builtin; refine wp_append_elem rfl (.tmp 72) (.tmp 77) rfl tyZ hA y rfl _ rfl (new_cells _ [.int .i64 y] _ _ (by simp)) ?n2ab ?n2a; (case' n2a => (intro g4 off4 cap4 w9 h9)))
                  case n2ab => ((try simp); omega)
                  go_roundw
                  case measure => simp [intOf]; omega
                  case rel => exact ⟨j + 1, _, true, by omega, by go_num, rfl, by simp; omega, by rw [if_pos rfl]; exact HN, h9⟩
                · have q4 : (y == u) = false := by simpa using e4
                  cases put with
                  | true =>
                    have HN := Lib.hid (show Q = (acc ++ [y]) ++ O.drop (j + 1) by rw [HI.out, if_pos rfl, hds]; simp)
                    clear hds hrs e4
                    go_upto_region 12 with fail
                    go_quiet (fail)
                    have h9 := h8.drewN nq
                    clear cx d0 h8
                    generalize wr.drewN nq = w9 at *
                    clear nq
                    have cx := (h9).f3.cell
                    have d0 : (w9).cell? ⟨g2, off2 + j, none⟩ = some (.int .i64 y) := by
                      rcases (h9).f2.l_cells tyZ.len with ⟨h0, _⟩ | ⟨g5, off5, cp5, hv5, _, _, hcell⟩
                      · rw [h0] at hy; simp at hy
                      simp only [Value.slice.injEq, Option.some.injEq, Addr.mk.injEq] at hv5
                      obtain ⟨⟨rfl, rfl, _⟩, hq5, rfl⟩ := hv5
                      have := hcell j _ hy 0 _ rfl
                      simpa using this
                    go_upto_region 14 with fail
                    go_quiet (fail)
                    have h10 := h9.drewN nq
                    clear cx d0 h9
                    generalize w9.drewN nq = w10 at *
                    clear nq
                    have cx := (h10).f3.cell
                    have d0 : (w10).cell? ⟨g2, off2 + j, none⟩ = some (.int .i64 y) := by
                      rcases (h10).f2.l_cells tyZ.len with ⟨h0, _⟩ | ⟨g5, off5, cp5, hv5, _, _, hcell⟩
                      · rw [h0] at hy; simp at hy
                      simp only [Value.slice.injEq, Option.some.injEq, Addr.mk.injEq] at hv5
                      obtain ⟨⟨rfl, rfl, _⟩, hq5, rfl⟩ := hv5
                      have := hcell j _ hy 0 _ rfl
                      simpa using this
                    go_upto_region 17 with fail
                    have hA := ((h10).alloc (.cells #[.int .i64 y] 3)).drop
                    go_wp2_with (at_builtin; refine wp_append_elem rfl (.tmp 72) (.tmp 77) rfl tyZ hA y rfl _ rfl (new_cells _ [.int .i64 y] _ _ (by simp)) ?n2cb ?n2c; (case' n2c => (intro g4 off4 cap4 w9 h9)))
                    case n2cb => ((try simp); omega)
                    go_roundw
                    case measure => simp [intOf]; omega
                    case rel => exact ⟨j + 1, _, true, by omega, by go_num, rfl, by simp; omega, by rw [if_pos rfl]; exact HN, h9⟩
                  | false =>
                    by_cases e5 : u < y
                    · have q5 : decide (u < y) = true := by simpa using e5
                      have HN := Lib.hid (show Q = (acc ++ [u] ++ [y]) ++ O.drop (j + 1) by rw [HI.out, if_neg (by simp), hrs, if_neg e4, if_pos e5]; simp)
                      clear hds hrs e4 e5
                      go_upto_region 12 with fail
                      go_quiet (fail)
                      have h9 := h8.drewN nq
                      clear cx d0 h8
                      generalize wr.drewN nq = w9 at *
                      clear nq
                      have cx := (h9).f3.cell
                      have d0 : (w9).cell? ⟨g2, off2 + j, none⟩ = some (.int .i64 y) := by
                        rcases (h9).f2.l_cells tyZ.len with ⟨h0, _⟩ | ⟨g5, off5, cp5, hv5, _, _, hcell⟩
                        · rw [h0] at hy; simp at hy
                        simp only [Value.slice.injEq, Option.some.injEq, Addr.mk.injEq] at hv5
                        obtain ⟨⟨rfl, rfl, _⟩, hq5, rfl⟩ := hv5
                        have := hcell j _ hy 0 _ rfl
                        simpa using this
                      go_upto_region 14 with fail
                      go_quiet (fail)
                      have h10 := h9.drewN nq
                      clear cx d0 h9
                      generalize w9.drewN nq = w10 at *
                      clear nq
                      have cx := (h10).f3.cell
                      have d0 : (w10).cell? ⟨g2, off2 + j, none⟩ = some (.int .i64 y) := by
                        rcases (h10).f2.l_cells tyZ.len with ⟨h0, _⟩ | ⟨g5, off5, cp5, hv5, _, _, hcell⟩
                        · rw [h0] at hy; simp at hy
                        simp only [Value.slice.injEq, Option.some.injEq, Addr.mk.injEq] at hv5
                        obtain ⟨⟨rfl, rfl, _⟩, hq5, rfl⟩ := hv5
                        have := hcell j _ hy 0 _ rfl
                        simpa using this
                      have hX := (h10.alloc (.cells #[.int .i64 u] 3)).drop
                      go_upto_region 17 with (at_builtin; refine wp_append_elem rfl (.tmp 67) (.tmp 70) rfl tyZ hX u rfl _ rfl (new_cells _ [.int .i64 u] _ _ (by simp)) ?n2d ?n2e; (case' n2e => (intro g3 off3 cap3 w8 h8)))
                      case n2d => omega
                      clear cx d0 hX h10
                      have cx := (h8).f3.cell
                      have d0 : (w8).cell? ⟨g2, off2 + j, none⟩ = some (.int .i64 y) := by
                        rcases (h8).f2.l_cells tyZ.len with ⟨h0, _⟩ | ⟨g5, off5, cp5, hv5, _, _, hcell⟩
                        · rw [h0] at hy; simp at hy
                        simp only [Value.slice.injEq, Option.some.injEq, Addr.mk.injEq] at hv5
                        obtain ⟨⟨rfl, rfl, _⟩, hq5, rfl⟩ := hv5
                        have := hcell j _ hy 0 _ rfl
                        simpa using this
                      have hA := ((h8).alloc (.cells #[.int .i64 y] 3)).drop
                      go_wp2_with (at_builtin; refine wp_append_elem rfl (.tmp 72) (.tmp 77) rfl tyZ hA y rfl _ rfl (new_cells _ [.int .i64 y] _ _ (by simp)) ?n2fb ?n2f; (case' n2f => (intro g4 off4 cap4 w9 h9)))
                      case n2fb => ((try simp); omega)
                      go_roundw
                      case measure => simp [intOf]; omega
                      case rel =>
                        simp only [List.length_append, List.length_singleton] at h9
                        exact ⟨j + 1, acc ++ [u] ++ [y], true, by omega, by go_num, rfl, by simp; omega, by rw [if_pos rfl]; exact HN, h9⟩
                    · have q5 : decide (u < y) = false := by simpa using e5
                      have HN := Lib.hid (show Q = (acc ++ [y]) ++ insI u (O.drop (j + 1)) by rw [HI.out, if_neg (by simp), hrs, if_neg e4, if_neg e5]; simp)
                      clear hds hrs e4 e5
                      go_upto_region 12 with fail
                      go_quiet (fail)
                      have h9 := h8.drewN nq
                      clear cx d0 h8
                      generalize wr.drewN nq = w9 at *
                      clear nq
                      have cx := (h9).f3.cell
                      have d0 : (w9).cell? ⟨g2, off2 + j, none⟩ = some (.int .i64 y) := by
                        rcases (h9).f2.l_cells tyZ.len with ⟨h0, _⟩ | ⟨g5, off5, cp5, hv5, _, _, hcell⟩
                        · rw [h0] at hy; simp at hy
                        simp only [Value.slice.injEq, Option.some.injEq, Addr.mk.injEq] at hv5
                        obtain ⟨⟨rfl, rfl, _⟩, hq5, rfl⟩ := hv5
                        have := hcell j _ hy 0 _ rfl
                        simpa using this
                      go_upto_region 14 with fail
                      go_quiet (fail)
                      have h10 := h9.drewN nq
                      clear cx d0 h9
                      generalize w9.drewN nq = w10 at *
                      clear nq
                      have cx := (h10).f3.cell
                      have d0 : (w10).cell? ⟨g2, off2 + j, none⟩ = some (.int .i64 y) := by
                        rcases (h10).f2.l_cells tyZ.len with ⟨h0, _⟩ | ⟨g5, off5, cp5, hv5, _, _, hcell⟩
                        · rw [h0] at hy; simp at hy
                        simp only [Value.slice.injEq, Option.some.injEq, Addr.mk.injEq] at hv5
                        obtain ⟨⟨rfl, rfl, _⟩, hq5, rfl⟩ := hv5
                        have := hcell j _ hy 0 _ rfl
                        simpa using this
                      go_upto_region 17 with fail
                      have hA := ((h10).alloc (.cells #[.int .i64 y] 3)).drop
                      go_wp2_with (at_builtin; refine wp_append_elem rfl (.tmp 72) (.tmp 77) rfl tyZ hA y rfl _ rfl (new_cells _ [.int .i64 y] _ _ (by simp)) ?n2gb ?n2g; (case' n2g => (intro g4 off4 cap4 w9 h9)))
                      case n2gb => ((try simp); omega)
                      go_roundw
                      case measure => simp [intOf]; omega
                      case rel => exact ⟨j + 1, _, false, by omega, by go_num, rfl, by simp; omega, by rw [if_neg (by simp)]; exact HN, h9⟩
              · have hd := HEO.out j (by omega)
                have cx := h8.f3.cell
                cases put with
                | true =>
                  have hq : Q = acc := by rw [HI.out, if_pos rfl, hd]; simp
                  have HQ3 := Lib.hid hq
                  clear hq hd
                  go_wp2
                  go_roundw
                  case rel =>
                    refine ⟨k + 1, by omega, by go_num, ?_⟩
                    rw [HQ.out, HQ3.out]
                    exact h8.f2.drop.f2.drop
                  case measure => simp [intOf]; omega
                | false =>
                  have hq : Q = acc ++ [u] := by rw [HI.out, if_neg (by simp), hd]; rfl
                  have HQ3 := Lib.hid hq
                  clear hq hd
                  have hX := (h8.alloc (.cells #[.int .i64 u] 3)).drop
                  go_wp2_with (at_builtin; refine wp_append_elem rfl (.tmp 81) (.tmp 84) rfl tyZ hX u rfl _ rfl (new_cells _ [.int .i64 u] _ _ (by simp)) ?n2h ?n2i; (case' n2i => (intro g3 off3 cap3 w8 h9)))
                  case n2h => omega
                  go_roundw
                  case rel =>
                    refine ⟨k + 1, by omega, by go_num, ?_⟩
                    rw [HQ.out, HQ3.out]
                    exact h9.f2.drop.f2.drop
                  case measure => simp [intOf]; omega
          · have q3 : (x2 == t) = false := by simpa using e3
            have q3' : (x2 != t) = true := by simpa using e3
            have hfit : fitsR (s, t) ((x1, x2), u) = false := by simp [fitsR, e2, e3]
            clear e1 e2 e3
            have HS := Lib.hid (HST.out k _ hx)
            have HF := Lib.hid hfit
            clear hx hfit
            go_wp2
            go_roundw
            case rel =>
              refine ⟨k + 1, by omega, by go_num, ?_⟩
              rw [HS.out, List.filter_append, List.filter_cons_of_neg (by rw [HF.out]; simp), List.filter_nil, List.append_nil, HO.out]
              exact h7.f2.drop
            case measure => simp [intOf]; omega
      · have q1 : (x1 == s) = false := by simpa using e1
        have q1' : (x1 != s) = true := by simpa using e1
        have hfit : fitsR (s, t) ((x1, x2), u) = false := by simp [fitsR, e1]
        clear e1
        have HS := Lib.hid (HST.out k _ hx)
        have HF := Lib.hid hfit
        clear hx hfit
        go_wp2
        go_roundw
        case rel =>
          refine ⟨k + 1, by omega, by go_num, ?_⟩
          rw [HS.out, List.filter_append, List.filter_cons_of_neg (by rw [HF.out]; simp), List.filter_nil, List.append_nil, HO.out]
          exact h7.f2.drop
        case measure => simp [intOf]; omega
    · have he := HEN.out k (by omega)
      rw [he] at h2
      clear he
      go_wp2
      go_ret
      exact ⟨_, rfl, h2.b3.mr_shut.f2⟩
end Go.Proofs.Ytkcclijckpbobaa
