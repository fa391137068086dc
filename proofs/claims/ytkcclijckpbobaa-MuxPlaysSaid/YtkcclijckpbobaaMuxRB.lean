/- The reference's mux: Join. -/
import Derived.Test.YtkcclijckpbobaaMuxR
namespace Go.Proofs.Ytkcclijckpbobaa
open Go.RowKit Go.Sort

theorem drop_stepE {L : List En} {y : En} {k : Nat} (hy : L[k]? = some y) : L.drop k = y :: L.drop (k + 1) := by
  have hk : k < L.length := (List.getElem?_eq_some_iff.1 hy).1
  rw [List.drop_eq_getElem_cons hk]
  rw [List.getElem?_eq_getElem hk] at hy
  rw [Option.some.inj hy]
theorem insE_step {L : List En} {y : En} {k : Nat} (hy : L[k]? = some y) (K : Lk) (id : Int) : insE K id (L.drop k) = if aheadL K y.1 then (K, id) :: y :: L.drop (k + 1) else y :: insE K id (L.drop (k + 1)) := by
  rw [drop_stepE hy]
  rfl
theorem look_none_of {L : List En} {K : Lk} (h : ∀ p ∈ L, p.1 ≠ K) : (mlook L K).isSome = false := by
  rw [Bool.eq_false_iff]
  intro hs
  obtain ⟨p, hp, e⟩ := List.mem_map.1 ((look_iffL _ _).1 hs)
  exact h p hp e


set_option maxRecDepth 100000 in
set_option maxHeartbeats 3200000 in
theorem mr_join (r : Nat) (mo : Int) (L : List En) (hL : L.length ≤ 100000) (k1 k2 id : Int) (w0 w : World) (R : HP) (h : St w0 w (MRef r mo L * R)) :
    Calls Try.prog 21 #[ptrX r, .int .i64 k1, .int .i64 k2, .int .i64 id] w fun e w' => e = .returned (.int .i64 (rjoin mo L (k1, k2) id).2) ∧ St w0 w' (MRef r mo (rjoin mo L (k1, k2) id).1 * R) := by
  unfold rjoin
  by_cases b1 : k1 < 0
  · rw [if_pos (by unfold badL; simp [b1])]
    go_enter Try.func21, Try.ntmps21
    go_wp2
    go_ret
    exact ⟨rfl, h⟩
  have b1' : decide (k1 < 0) = false := by simpa using b1
  by_cases b2 : 63 < k1
  · rw [if_pos (by unfold badL; simp [b2])]
    have b2' : decide (63 < k1) = true := by simpa using b2
    go_enter Try.func21, Try.ntmps21
    go_wp2
    go_ret
    exact ⟨rfl, h⟩
  have b2' : decide (63 < k1) = false := by simpa using b2
  by_cases b3 : k2 < 0
  · rw [if_pos (by unfold badL; simp [b3])]
    go_enter Try.func21, Try.ntmps21
    go_wp2
    go_ret
    exact ⟨rfl, h⟩
  have b3' : decide (k2 < 0) = false := by simpa using b3
  by_cases b4 : 126 < k2
  · rw [if_pos (by unfold badL; simp [b4])]
    go_enter Try.func21, Try.ntmps21
    go_wp2
    go_ret
    exact ⟨rfl, h⟩
  have b4' : decide (126 < k2) = false := by simpa using b4
  rw [if_neg (by unfold badL; simp only []; omega)]
  obtain ⟨v, h1⟩ := h.mr_open
  obtain ⟨a, cap, rfl, _, _⟩ := h1.f2.l_shape
  obtain ⟨m, hm⟩ : ∃ m, L.length = m := ⟨_, rfl⟩
  have hge : ∀ k : Nat, k < m → ∃ x1 x2 u, L[k]? = some ((x1, x2), u) := fun k hk => ⟨L[k].1.1, L[k].1.2, L[k].2, List.getElem?_eq_getElem (by omega)⟩
  have hst : ∀ (j : Nat) (x1 x2 u : Int), L[j]? = some ((x1, x2), u) → (∀ p ∈ L.take j, p.1 ≠ (k1, k2)) → ¬ (x1 = k1 ∧ x2 = k2) → ∀ p ∈ L.take (j + 1), p.1 ≠ (k1, k2) := fun j x1 x2 u hj hp hx p hp2 => by
    rw [List.take_add_one, hj, List.mem_append] at hp2
    rcases hp2 with hp2 | hp2
    · exact hp p hp2
    · simp at hp2; subst hp2; simpa using hx
  have hat : ∀ (j : Nat) (x1 x2 u : Int), L[j]? = some ((x1, x2), u) → x1 = k1 → x2 = k2 → (mlook L (k1, k2)).isSome = true := fun j x1 x2 u hj e1 e2 => by
    subst e1 e2
    exact (look_iffL _ _).2 (List.mem_map.2 ⟨_, List.mem_of_getElem? hj, rfl⟩)
  have hno : ∀ k : Nat, k = m → (∀ p ∈ L.take k, p.1 ≠ (k1, k2)) → (mlook L (k1, k2)).isSome = false := fun k hk hp => by
    rw [List.take_of_length_le (by omega)] at hp
    exact look_none_of hp
  have hen : ∀ k : Nat, k = m → L.drop k = [] := fun k hk => List.drop_eq_nil_of_le (by omega)
  obtain ⟨Q, hQ⟩ : ∃ Q, insE (k1, k2) id L = Q := ⟨_, rfl⟩
  rw [hm] at h1 hL
  rw [hm, hQ]
  have HQ := Lib.hid hQ
  have HGE := Lib.hid hge
  have HST := Lib.hid hst
  have HAT := Lib.hid hat
  have HNO := Lib.hid hno
  have HEN := Lib.hid hen
  clear hge hst hat hno hen h hm hQ b1 b2 b3 b4
  obtain ⟨is, his⟩ : ∃ is, (mlook L (k1, k2)).isSome = is := ⟨_, rfl⟩
  rw [his]
  have HIS := Lib.hid his
  clear his
  obtain ⟨rc, hrc⟩ : ∃ rc : List En × Int, (if is = true then (L, 13) else if (m : Int) = mo then (L, 10) else (Q, 0)) = rc := ⟨_, rfl⟩
  rw [hrc]
  have HRC := Lib.hid hrc
  clear hrc
  go_enter Try.func21, Try.ntmps21
  go_wp2
  go_loopw [9] (fun i wr => ∃ k : Nat, k ≤ m ∧ i = .int .i64 k ∧ Hid (∀ p ∈ L.take k, p.1 ≠ (k1, k2)) ∧ St w0 wr (blk r (.cells #[.int .i64 mo, .slice a m cap] 65 (0, 0)) * (LAt 41 3 enC (.slice a m cap) L * R))) (fun i _ => m - (intOf i).toNat)
  case atStart => exact ⟨0, by omega, rfl, Lib.hid (by simp), h1⟩
  case round =>
    clear h1
    obtain ⟨k, hk, rfl, HALL, h2⟩ := hrel
    have c := h2.cell
    by_cases hlt : k < m
    · obtain ⟨y1, y2, yu, hx⟩ := HGE.out k hlt
      rcases (h2.f2).l_cells tyEn.len with ⟨h0, _⟩ | ⟨g, off, cp, hv, _, _, hcell⟩
      · first | (cases h0; done) | (rw [h0] at hx; simp at hx; done)
      simp only [Value.slice.injEq] at hv
      obtain ⟨rfl, hq, rfl⟩ := hv
      clear hq
      have d0 : wr.cell? ⟨g, off + k * 3, none⟩ = some (.int .i64 y1) := hcell _ _ hx 0 _ rfl
      have d1 : wr.cell? ⟨g, off + k * 3 + 1, none⟩ = some (.int .i64 y2) := hcell _ _ hx 1 _ rfl
      have d2 : wr.cell? ⟨g, off + k * 3 + 2, none⟩ = some (.int .i64 yu) := hcell _ _ hx 2 _ rfl
      clear hcell
      by_cases e1 : y1 = k1
      · have c1 : (y1 == k1) = true := by simpa using e1
        by_cases e2 : y2 = k2
        · have c2 : (y2 == k2) = true := by simpa using e2
          have he := HAT.out k _ _ _ hx e1 e2
          rw [HIS.out] at he
          subst he
          have hr := HRC.out
          rw [if_pos rfl] at hr
          subst hr
          clear e1 e2 hx
          go_wp2
          go_ret
          exact ⟨rfl, h2.mr_shut⟩
        · have c2 : (y2 == k2) = false := by simpa using e2
          have hs := Lib.hid (HST.out k _ _ _ hx HALL.out (by simp [e2]))
          clear e1 e2 hx
          go_wp2
          go_roundw
          case rel => exact ⟨k + 1, by omega, by go_num, hs, h2⟩
          case measure => simp [intOf]; omega
      · have c1 : (y1 == k1) = false := by simpa using e1
        have hs := Lib.hid (HST.out k _ _ _ hx HALL.out (by simp [e1]))
        clear e1 hx
        go_wp2
        go_roundw
        case rel => exact ⟨k + 1, by omega, by go_num, hs, h2⟩
        case measure => simp [intOf]; omega
    · have he := HNO.out k (by omega) HALL.out
      rw [HIS.out] at he
      subst he
      have hr := HRC.out
      rw [if_neg (by simp)] at hr
      have HM := Lib.hid hr
      clear hr HALL
      by_cases b5 : (m : Int) = mo
      · have b5' : ((m : Int) == mo) = true := by simpa using b5
        have hr := HM.out
        rw [if_pos b5] at hr
        subst hr
        clear b5
        go_upto_region 8 with fail
        go_quiet (fail)
        go_wp2
        go_ret
        exact ⟨rfl, (h2.drewN _).mr_shut⟩
      · have b5' : ((m : Int) == mo) = false := by simpa using b5
        have hr := HM.out
        rw [if_neg b5] at hr
        subst hr
        clear b5 HIS HRC HM HAT HST HNO
        go_upto_region 8 with fail
        clear hlt
        go_quiet (fail)
        have h3 := ((h2.drewN nq).alloc (.cells #[.int .i64 k1, .int .i64 k2, .int .i64 id] 41)).l_nil 41 3 enC
        clear c h2
        generalize wr.drewN nq = w2 at *
        go_upto_region 13 with fail
        generalize w2.alloc _ = w3 at *
        generalize w2.heap.size = tb at *
        clear b1' b2' b3' b4' b5'
        go_wp2
        go_loopw [11, 12, 13] (fun s11 s12 i wr => ∃ (k : Nat) (acc : List En) (put : Bool), k ≤ m ∧ i = .int .i64 k ∧ s12 = .bool put ∧ acc.length ≤ 2 * k + 1 ∧ Hid (Q = if put = true then acc ++ L.drop k else acc ++ insE (k1, k2) id (L.drop k)) ∧
            St w0 wr (LAt 41 3 enC s11 acc * (blk tb (.cells #[.int .i64 k1, .int .i64 k2, .int .i64 id] 41 (0, 0)) * (blk r (.cells #[.int .i64 mo, .slice a m cap] 65 (0, 0)) * (LAt 41 3 enC (.slice a m cap) L * R))))) (fun _ _ i _ => m - (intOf i).toNat)
        case atStart => exact ⟨0, [], false, by omega, rfl, rfl, by simp, Lib.hid (by rw [HQ.out.symm]; simp), h3⟩
        case round =>
          clear h3
          obtain ⟨k, acc, put, hk, rfl, rfl, hal, HI, h5⟩ := hrel
          obtain ⟨a5, cap5, rfl, _, _⟩ := h5.l_shape
          have c := h5.f3.cell
          by_cases hlt : k < m
          · obtain ⟨y1, y2, yu, hx⟩ := HGE.out k hlt
            rcases (h5.f4).l_cells tyEn.len with ⟨h0, _⟩ | ⟨g, off, cp, hv, _, _, hcell⟩
            · first | (cases h0; done) | (rw [h0] at hx; simp at hx; done)
            simp only [Value.slice.injEq] at hv
            obtain ⟨rfl, hq, rfl⟩ := hv
            clear hq
            have d0 : wr.cell? ⟨g, off + k * 3, none⟩ = some (.int .i64 y1) := hcell _ _ hx 0 _ rfl
            have d1 : wr.cell? ⟨g, off + k * 3 + 1, none⟩ = some (.int .i64 y2) := hcell _ _ hx 1 _ rfl
            have d2 : wr.cell? ⟨g, off + k * 3 + 2, none⟩ = some (.int .i64 yu) := hcell _ _ hx 2 _ rfl
            clear hcell
            have h7 := (h5.alloc (.cells #[.int .i64 y1, .int .i64 y2, .int .i64 yu] 41)).f2
            go_upto_region 17 with fail
            generalize wr.alloc _ = w7 at *
            generalize wr.heap.size = gy at *
            clear c d0 d1 d2 h5
            have cy := h7.f2.cell
            have cx := h7.f3.cell
            have hds := drop_stepE hx
            have hrs := insE_step hx (k1, k2) id
            cases put with
            | true =>
              have HN := Lib.hid (show Q = (acc ++ [((y1, y2), yu)]) ++ L.drop (k + 1) by rw [HI.out, if_pos rfl, hds]; simp)
              clear hds hrs hx
              go_upto_region 20 with fail
              have hA := ((h7).alloc (.cells #[.int .i64 y1, .int .i64 y2, .int .i64 yu] 41)).drop
              go_wp2_with (at_builtin; refine wp_append_elem rfl (.tmp 114) (.tmp 116) rfl tyEn hA ((y1, y2), yu) rfl _ rfl (new_cells _ [.int .i64 y1, .int .i64 y2, .int .i64 yu] _ _ (by simp)) ?n1b ?n1; (case' n1 => (intro g4 off4 cap4 w9 h9)))
              case n1b => ((try simp); omega)
              go_roundw
              case measure => simp [intOf]; omega
              case rel => exact ⟨k + 1, _, true, by omega, by go_num, rfl, by simp; omega, by rw [if_pos rfl]; exact HN, h9.f2.drop⟩
            | false =>
              by_cases e1 : k1 < y1
              · have q1 : decide (k1 < y1) = true := by simpa using e1
                have hah : aheadL (k1, k2) (y1, y2) := .inl e1
                clear e1
                have HN := Lib.hid (show Q = (acc ++ [((k1, k2), id)] ++ [((y1, y2), yu)]) ++ L.drop (k + 1) by rw [HI.out, if_neg (by simp), hrs, if_pos hah]; simp)
                clear hds hrs hx hah
                have hX := (h7.alloc (.cells #[.int .i64 k1, .int .i64 k2, .int .i64 id] 41)).drop
                go_upto_region 20 with (at_builtin; refine wp_append_elem rfl (.tmp 110) (.tmp 112) rfl tyEn hX ((k1, k2), id) rfl _ rfl (new_cells _ [.int .i64 k1, .int .i64 k2, .int .i64 id] _ _ (by simp)) ?n2d ?n2c; (case' n2c => (intro g2 off2 cap2 w8 h8)))
                case n2d => omega
                clear cx cy hX h7
                have cy := h8.f2.cell
                have hA := ((h8).alloc (.cells #[.int .i64 y1, .int .i64 y2, .int .i64 yu] 41)).drop
                go_wp2_with (at_builtin; refine wp_append_elem rfl (.tmp 114) (.tmp 116) rfl tyEn hA ((y1, y2), yu) rfl _ rfl (new_cells _ [.int .i64 y1, .int .i64 y2, .int .i64 yu] _ _ (by simp)) ?n2b ?n2; (case' n2 => (intro g4 off4 cap4 w9 h9)))
                case n2b => ((try simp); omega)
                go_roundw
                case measure => simp [intOf]; omega
                case rel =>
                  simp only [List.length_append, List.length_singleton] at h9
                  exact ⟨k + 1, acc ++ [((k1, k2), id)] ++ [((y1, y2), yu)], true, by omega, by go_num, rfl, by simp; omega, by rw [if_pos rfl]; exact HN, h9.f2.drop⟩
              · have q1 : decide (k1 < y1) = false := by simpa using e1
                by_cases e2 : k1 = y1
                · have q2 : (k1 == y1) = true := by simpa using e2
                  by_cases e3 : k2 < y2
                  · have q3 : decide (k2 < y2) = true := by simpa using e3
                    have hah : aheadL (k1, k2) (y1, y2) := .inr ⟨e2, e3⟩
                    clear e1 e2 e3
                    have HN := Lib.hid (show Q = (acc ++ [((k1, k2), id)] ++ [((y1, y2), yu)]) ++ L.drop (k + 1) by rw [HI.out, if_neg (by simp), hrs, if_pos hah]; simp)
                    clear hds hrs hx hah
                    have hX := (h7.alloc (.cells #[.int .i64 k1, .int .i64 k2, .int .i64 id] 41)).drop
                    go_upto_region 20 with (at_builtin; refine wp_append_elem rfl (.tmp 110) (.tmp 112) rfl tyEn hX ((k1, k2), id) rfl _ rfl (new_cells _ [.int .i64 k1, .int .i64 k2, .int .i64 id] _ _ (by simp)) ?n3d ?n3c; (case' n3c => (intro g2 off2 cap2 w8 h8)))
                    case n3d => omega
                    clear cx cy hX h7
                    have cy := h8.f2.cell
                    have hA := ((h8).alloc (.cells #[.int .i64 y1, .int .i64 y2, .int .i64 yu] 41)).drop
                    go_wp2_with (at_builtin; refine wp_append_elem rfl (.tmp 114) (.tmp 116) rfl tyEn hA ((y1, y2), yu) rfl _ rfl (new_cells _ [.int .i64 y1, .int .i64 y2, .int .i64 yu] _ _ (by simp)) ?n3b ?n3; (case' n3 => (intro g4 off4 cap4 w9 h9)))
                    case n3b => ((try simp); omega)
                    go_roundw
                    case measure => simp [intOf]; omega
                    case rel =>
                      simp only [List.length_append, List.length_singleton] at h9
                      exact ⟨k + 1, acc ++ [((k1, k2), id)] ++ [((y1, y2), yu)], true, by omega, by go_num, rfl, by simp; omega, by rw [if_pos rfl]; exact HN, h9.f2.drop⟩
                  · have q3 : decide (k2 < y2) = false := by simpa using e3
                    have hah : ¬ aheadL (k1, k2) (y1, y2) := by unfold aheadL; simp only []; omega
                    clear e1 e2 e3
                    have HN := Lib.hid (show Q = (acc ++ [((y1, y2), yu)]) ++ insE (k1, k2) id (L.drop (k + 1)) by rw [HI.out, if_neg (by simp), hrs, if_neg hah]; simp)
                    clear hds hrs hx hah
                    go_upto_region 20 with fail
                    have hA := ((h7).alloc (.cells #[.int .i64 y1, .int .i64 y2, .int .i64 yu] 41)).drop
                    go_wp2_with (at_builtin; refine wp_append_elem rfl (.tmp 114) (.tmp 116) rfl tyEn hA ((y1, y2), yu) rfl _ rfl (new_cells _ [.int .i64 y1, .int .i64 y2, .int .i64 yu] _ _ (by simp)) ?n4b ?n4; (case' n4 => (intro g4 off4 cap4 w9 h9)))
                    case n4b => ((try simp); omega)
                    go_roundw
                    case measure => simp [intOf]; omega
                    case rel => exact ⟨k + 1, _, false, by omega, by go_num, rfl, by simp; omega, by rw [if_neg (by simp)]; exact HN, h9.f2.drop⟩
                · have q2 : (k1 == y1) = false := by simpa using e2
                  have hah : ¬ aheadL (k1, k2) (y1, y2) := by unfold aheadL; simp only []; omega
                  clear e1 e2
                  have HN := Lib.hid (show Q = (acc ++ [((y1, y2), yu)]) ++ insE (k1, k2) id (L.drop (k + 1)) by rw [HI.out, if_neg (by simp), hrs, if_neg hah]; simp)
                  clear hds hrs hx hah
                  go_upto_region 20 with fail
                  have hA := ((h7).alloc (.cells #[.int .i64 y1, .int .i64 y2, .int .i64 yu] 41)).drop
                  go_wp2_with (at_builtin; refine wp_append_elem rfl (.tmp 114) (.tmp 116) rfl tyEn hA ((y1, y2), yu) rfl _ rfl (new_cells _ [.int .i64 y1, .int .i64 y2, .int .i64 yu] _ _ (by simp)) ?n5b ?n5; (case' n5 => (intro g4 off4 cap4 w9 h9)))
                  case n5b => ((try simp); omega)
                  go_roundw
                  case measure => simp [intOf]; omega
                  case rel => exact ⟨k + 1, _, false, by omega, by go_num, rfl, by simp; omega, by rw [if_neg (by simp)]; exact HN, h9.f2.drop⟩
          · have hd := HEN.out k (by omega)
            have cx := h5.f2.cell
            have f := h5.f3.free
            cases put with
            | true =>
              have hq : Q = acc := by rw [HI.out, if_pos rfl, hd]; simp
              have HQ2 := Lib.hid hq
              have h6 := (h5.f3.set 1 (.slice a5 acc.length cap5)).f4.drop.f3.drop
              clear hq hd
              go_wp2
              go_ret
              rw [HQ2.out]
              exact ⟨rfl, h6.mr_shut⟩
            | false =>
              have hq : Q = acc ++ [((k1, k2), id)] := by rw [HI.out, if_neg (by simp), hd]; rfl
              have HQ2 := Lib.hid hq
              clear hq hd
              have hX := (h5.alloc (.cells #[.int .i64 k1, .int .i64 k2, .int .i64 id] 41)).drop
              go_upto_region 23 with (at_builtin; refine wp_append_elem rfl (.tmp 120) (.tmp 122) rfl tyEn hX ((k1, k2), id) rfl _ rfl (new_cells _ [.int .i64 k1, .int .i64 k2, .int .i64 id] _ _ (by simp)) ?n6b ?n6; (case' n6 => (intro g2 off2 cap2 w8 h8)))
              case n6b => omega
              clear c cx f
              have c := h8.f3.cell
              have f := h8.f3.free
              have h6 := (h8.f3.set 1 (.slice (some ⟨g2, off2, none⟩) (acc.length + 1) cap2)).f4.drop.f3.drop
              go_wp2
              go_ret
              rw [HQ2.out]
              exact ⟨rfl, h6.mr_shut⟩
end Go.Proofs.Ytkcclijckpbobaa
