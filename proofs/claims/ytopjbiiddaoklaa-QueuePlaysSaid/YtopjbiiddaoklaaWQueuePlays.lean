/- QueuePlays: the walk. -/
import Derived.Test.YtopjbiiddaoklaaWQueueAct
import Derived.Test.YtopjbiiddaoklaaQueueRef
namespace Go.Proofs.Ytopjbiiddaoklaa
open Go.RowKit

theorem quiet_left {P : Program} {f : FuncId} {args : Array Value} {w : World} {n : Nat} {v : Value}
    (h : Calls P f args (w.drewN n) fun e w' => e = .returned v ∧ w.drewN n = w') : Calls P f args (w.drewN n) fun e w'' => e = .returned v ∧ ∃ m, w'' = w.drewN m :=
  h.mono fun _ _ ⟨he, hm⟩ => ⟨he, n, hm.symm⟩

set_option maxRecDepth 100000 in
set_option maxHeartbeats 3200000 in
theorem QueuePlays.walk (a0 : Int) (a1 : Option Addr) (len1 cap1 : Nat) (w : World) (_w0 : (Lit.int .i64 a0).wf = true) (w1 : (Sh.slice QActSh).ok w [.slice a1 len1 cap1]) :
    Calls Try.prog 6 #[.int .i64 a0, .slice a1 len1 cap1] w fun e w' => e = .returned (.bool true) ∧ Below w.heap.size w w' := by
  obtain ⟨l1, l2, l3⟩ := qscript w1
  unfold maxLen at l2
  go_enter Try.func6, Try.ntmps6
  go_wp2_with fail
  refine (q_new _ _ _ _ (St.start _)).mono ?_
  rintro e w2 ⟨p, rfl, h1⟩
  go_wp2_with fail
  refine (r_new _ _ _ _ h1).mono ?_
  rintro e w3 ⟨r, rfl, h2⟩
  have ok0 := Q.Ok.new a0
  generalize (⟨(max 1 (min a0 256)).toNat, [], 0⟩ : Q) = q0 at *
  go_wp2_with fail
  refine (q_wakes w _ _ h2).mono ?_
  rintro e w4 ⟨rfl, h3⟩
  go_upto_region 4 with fail
  go_cut [25, 26, 27] (fun s33 s34 s35 wx => ∃ m : Nat, m ≤ len1 ∧ s33 = .slice a1 m cap1 ∧ s34 = .int .i64 m ∧ s35 = .int .i64 0 ∧ w4 = wx)
  case first =>
    go_wp2
    all_goals (go_meet; first | exact ⟨len1, Nat.le_refl _, rfl, rfl, rfl, rfl⟩ | exact ⟨60, by omega, rfl, rfl, rfl, rfl⟩)
  case rest =>
  obtain ⟨m, hm, rfl, rfl, rfl, rfl⟩ := hcut
  go_wp2
  go_loopw [27] (fun i wr => ∃ (k : Nat) (q : Q), k ≤ m ∧ i = .int .i64 k ∧ q.Ok ∧ St w wr (QAt 47 r q * (QAt 78 p q * Old w))) (fun i _ => m - (intOf i).toNat)
  case atStart => exact ⟨0, q0, by omega, rfl, ok0, h3⟩
  case round =>
    clear h1 h2 h3 ok0
    obtain ⟨k, q, hk, rfl, ok, h3⟩ := hrel
    by_cases hlt : k < m
    · obtain ⟨b, off, rfl, hb, hi⟩ := l3 (by omega)
      obtain ⟨x, fx, c0, c1, c2, c3⟩ := hi k (by omega)
      have hbel := (h3.eq (show _ = Old w * (QAt 47 r q * QAt 78 p q) by ac_rfl)).old
      have d0 := (hbel.cell (p := ⟨b, off + k * 4, none⟩) hb).trans c0
      have d1 := (hbel.cell (p := ⟨b, off + k * 4 + 1, none⟩) hb).trans c1
      have d2 := (hbel.cell (p := ⟨b, off + k * 4 + 2, none⟩) hb).trans c2
      have d3 := (hbel.cell (p := ⟨b, off + k * 4 + 3, none⟩) hb).trans c3
      clear hi l3
      have h4 := h3.alloc (.cells #[.int .i64 x.Do, .int .i64 x.N, .int .i64 x.Often, .string x.Data] 29)
      have e0 := h4.cell
      go_upto_block 2 with fail
      generalize hg : wr.heap.size = g at *
      generalize hwr : wr.alloc (.cells #[.int .i64 x.Do, .int .i64 x.N, .int .i64 x.Often, .string x.Data] 29) = wa at *
      clear hg hwr d0 d1 d2 d3 c0 c1 c2 c3
      go_cut [] (fun wx => ∃ q' : Q, q'.Ok ∧ St w wx (QAt 47 r q' * (QAt 78 p q' * Old w)))
      case first =>
        go_wp2_with fail
        · refine (q_take p q w _ _ (h4.eq (star_3 _ _ _ _)) ok).mono ?_
          rintro e w5 ⟨rfl, h5⟩
          go_wp2_with fail
          refine (r_take r q w _ _ (h5.eq (star_3 _ _ _ _)) ok).mono ?_
          rintro e w6 ⟨rfl, h6⟩
          go_wp2
          go_meet
          exact ⟨q.take.1, ok.take, (h6.eq (star_3 _ _ _ _)).drop.eq (by ac_rfl)⟩
        · refine (q_take p q w _ _ (h4.eq (star_3 _ _ _ _)) ok).mono ?_
          rintro e w5 ⟨rfl, h5⟩
          go_wp2_with fail
          refine (r_take r q w _ _ (h5.eq (star_3 _ _ _ _)) ok).mono ?_
          rintro e w6 ⟨rfl, h6⟩
          go_wp2
          go_meet
          exact ⟨q.take.1, ok.take, (h6.eq (star_3 _ _ _ _)).drop.eq (by ac_rfl)⟩
        · go_cut [51, 72, 83] (fun _ _ s83 wx => s83 = .bool false ∧ St w wx (QAt 47 r (q.done x.N).1 * (QAt 78 p (q.done x.N).1 * Old w)))
          case first =>
            go_region_held3 (fun w' => w'.cell? ⟨g, 1, none⟩ = some (.int .i64 x.N)) (first | exact e0 1 | exact e1 1 | exact e2 1) (first | (go_at_call 17; refine ((q_done p q x.N w _ _ (h4.drew.eq (star_3 _ _ _ _)) ok)).mono ?_; rintro e w5 ⟨rfl, h5⟩; have e1 := (h5.eq (show _ = blk g _ * (QAt 78 p (q.done x.N).1 * (QAt 47 r q * Old w)) by ac_rfl)).cell) | (go_at_call 26; refine ((r_done r q x.N w _ _ (h5.eq (star_3 _ _ _ _)) ok)).mono ?_; rintro e w6 ⟨rfl, h6⟩; have e2 := (h6.eq (show _ = blk g _ * (QAt 78 p (q.done x.N).1 * (QAt 47 r (q.done x.N).1 * Old w)) by ac_rfl)).cell))
            go_wp2
            go_meet
            exact ⟨by simp, (h6.eq (star_3 _ _ _ _)).drop.eq (by ac_rfl)⟩
          case rest =>
            obtain ⟨rfl, h5⟩ := hcut
            go_wp2
            go_meet
            exact ⟨_, ok.done x.N, h5⟩
        · go_cut [51, 72, 83] (fun _ _ s83 wx => s83 = .bool false ∧ St w wx (QAt 47 r (q.done x.N).1 * (QAt 78 p (q.done x.N).1 * Old w)))
          case first =>
            go_region_held3 (fun w' => w'.cell? ⟨g, 1, none⟩ = some (.int .i64 x.N)) (first | exact e0 1 | exact e1 1 | exact e2 1) (first | (go_at_call 17; refine ((q_done p q x.N w _ _ (h4.drew.eq (star_3 _ _ _ _)) ok)).mono ?_; rintro e w5 ⟨rfl, h5⟩; have e1 := (h5.eq (show _ = blk g _ * (QAt 78 p (q.done x.N).1 * (QAt 47 r q * Old w)) by ac_rfl)).cell) | (go_at_call 26; refine ((r_done r q x.N w _ _ (h5.eq (star_3 _ _ _ _)) ok)).mono ?_; rintro e w6 ⟨rfl, h6⟩; have e2 := (h6.eq (show _ = blk g _ * (QAt 78 p (q.done x.N).1 * (QAt 47 r (q.done x.N).1 * Old w)) by ac_rfl)).cell))
            go_wp2
            go_meet
            exact ⟨by simp, (h6.eq (star_3 _ _ _ _)).drop.eq (by ac_rfl)⟩
          case rest =>
            obtain ⟨rfl, h5⟩ := hcut
            go_wp2
            go_meet
            exact ⟨_, ok.done x.N, h5⟩
        · go_cut [51, 72, 84, 95] (fun _ _ _ s83 wx => s83 = .bool false ∧ St w wx (QAt 47 r (q.back x.N).1 * (QAt 78 p (q.back x.N).1 * Old w)))
          case first =>
            go_region_held3 (fun w' => w'.cell? ⟨g, 1, none⟩ = some (.int .i64 x.N)) (first | exact e0 1 | exact e1 1 | exact e2 1) (first | (go_at_call 18; refine ((q_back p q x.N w _ _ (h4.drew.eq (star_3 _ _ _ _)))).mono ?_; rintro e w5 ⟨rfl, h5⟩; have e1 := (h5.eq (show _ = blk g _ * (QAt 78 p (q.back x.N).1 * (QAt 47 r q * Old w)) by ac_rfl)).cell) | (go_at_call 27; refine ((r_back r q x.N w _ _ (h5.eq (star_3 _ _ _ _)))).mono ?_; rintro e w6 ⟨rfl, h6⟩; have e2 := (h6.eq (show _ = blk g _ * (QAt 78 p (q.back x.N).1 * (QAt 47 r (q.back x.N).1 * Old w)) by ac_rfl)).cell))
            go_wp2
            go_meet
            exact ⟨by simp, (h6.eq (star_3 _ _ _ _)).drop.eq (by ac_rfl)⟩
          case rest =>
            obtain ⟨rfl, h5⟩ := hcut
            go_wp2
            go_meet
            exact ⟨_, ok.back x.N, h5⟩
        · go_cut [51, 72, 84, 95] (fun _ _ _ s83 wx => s83 = .bool false ∧ St w wx (QAt 47 r (q.back x.N).1 * (QAt 78 p (q.back x.N).1 * Old w)))
          case first =>
            go_region_held3 (fun w' => w'.cell? ⟨g, 1, none⟩ = some (.int .i64 x.N)) (first | exact e0 1 | exact e1 1 | exact e2 1) (first | (go_at_call 18; refine ((q_back p q x.N w _ _ (h4.drew.eq (star_3 _ _ _ _)))).mono ?_; rintro e w5 ⟨rfl, h5⟩; have e1 := (h5.eq (show _ = blk g _ * (QAt 78 p (q.back x.N).1 * (QAt 47 r q * Old w)) by ac_rfl)).cell) | (go_at_call 27; refine ((r_back r q x.N w _ _ (h5.eq (star_3 _ _ _ _)))).mono ?_; rintro e w6 ⟨rfl, h6⟩; have e2 := (h6.eq (show _ = blk g _ * (QAt 78 p (q.back x.N).1 * (QAt 47 r (q.back x.N).1 * Old w)) by ac_rfl)).cell))
            go_wp2
            go_meet
            exact ⟨by simp, (h6.eq (star_3 _ _ _ _)).drop.eq (by ac_rfl)⟩
          case rest =>
            obtain ⟨rfl, h5⟩ := hcut
            go_wp2
            go_meet
            exact ⟨_, ok.back x.N, h5⟩
        · refine (q_clear p q w _ _ (h4.eq (star_3 _ _ _ _)) ok).mono ?_
          rintro e w5 ⟨rfl, h5⟩
          go_wp2_with fail
          refine (r_clear r q w _ _ (h5.eq (star_3 _ _ _ _)) ok).mono ?_
          rintro e w6 ⟨rfl, h6⟩
          go_wp2
          go_meet
          exact ⟨_, ok.clear, (h6.eq (star_3 _ _ _ _)).drop.eq (by ac_rfl)⟩
        · refine (q_clear p q w _ _ (h4.eq (star_3 _ _ _ _)) ok).mono ?_
          rintro e w5 ⟨rfl, h5⟩
          go_wp2_with fail
          refine (r_clear r q w _ _ (h5.eq (star_3 _ _ _ _)) ok).mono ?_
          rintro e w6 ⟨rfl, h6⟩
          go_wp2
          go_meet
          exact ⟨_, ok.clear, (h6.eq (star_3 _ _ _ _)).drop.eq (by ac_rfl)⟩
        all_goals
          go_loopw [39] (fun i wr => ∃ (j : Nat) (q' : Q), j ≤ 100 ∧ i = .int .i64 j ∧ q'.Ok ∧ St w wr (blk g (.cells #[.int .i64 x.Do, .int .i64 x.N, .int .i64 x.Often, .string x.Data] 29) * (QAt 47 r q' * (QAt 78 p q' * Old w)))) (fun i _ => 100 - (intOf i).toNat)
          case atStart => exact ⟨0, q, by omega, rfl, ok, h4⟩
          case round =>
            obtain ⟨j, q', hj, rfl, ok', h6⟩ := hrel
            clear e0
            have e0 := h6.cell
            go_upto_region 10 with fail
            · go_cut [49] (fun s83 wx => s83 = .bool false ∧ St w wx (blk g (.cells #[.int .i64 x.Do, .int .i64 x.N, .int .i64 x.Often, .string x.Data] 29) * (QAt 47 r (q'.push x.Data).1 * (QAt 78 p (q'.push x.Data).1 * Old w))))
              case first =>
                go_region_held3 (fun w' => w'.cell? ⟨g, 3, none⟩ = some (.string x.Data)) (first | exact e0 3 | exact e1 3 | exact e2 3) (first | (go_at_call 16; refine (q_push p q' x.Data w _ _ (h6.drew.eq (star_3 _ _ _ _)) ok').mono ?_; rintro e w5 ⟨rfl, h7⟩; have e1 := (h7.eq (show _ = blk g _ * (QAt 78 p (q'.push x.Data).1 * (QAt 47 r q' * Old w)) by ac_rfl)).cell) | (go_at_call 30; refine (r_push r q' x.Data w _ _ (h7.eq (star_3 _ _ _ _)) ok').mono ?_; rintro e w6 ⟨rfl, h8⟩; have e2 := (h8.eq (show _ = blk g _ * (QAt 78 p (q'.push x.Data).1 * (QAt 47 r (q'.push x.Data).1 * Old w)) by ac_rfl)).cell))
                go_wp2
                go_meet
                exact ⟨by simp, h8.eq (by ac_rfl)⟩
              case rest =>
                obtain ⟨rfl, h7⟩ := hcut
                go_wp2
                go_roundw
                case rel => exact ⟨j + 1, _, by omega, by go_num, ok'.push x.Data, h7⟩
                case measure => simp [intOf]; omega
            · go_wp2
              go_meet
              exact ⟨q', ok', h6.drop⟩
      case rest =>
        obtain ⟨q', ok', h5⟩ := hcut
        clear h4 e0 h3 ok
        go_wp2_with fail
        refine (q_list p q' w _ _ (h5.eq (star_left_comm _ _ _)) ok').mono ?_
        rintro e w6 ⟨v, rfl, h6⟩
        obtain ⟨va, vc, rfl, _, _⟩ := h6.row_shape
        obtain ⟨lv, h7⟩ := (h6.eq (show _ = QAt 47 r q' * (Row 9 1 (.slice va q'.l.length vc) q'.l.length (strs q'.l) * (QAt 78 p q' * Old w)) by ac_rfl)).q_open
        obtain ⟨ra, rc, rfl, _, _⟩ := h7.drop.row_shape
        have n1 := ok'.sl
        have n2 := ok'.len
        have e0 := h7.cell
        have n3 : ((q'.l.length : Int) != (q'.l.length : Int)) = false := by simp
        have hs := h6.eq (show _ = QAt 78 p q' * (Row 9 1 (.slice va q'.l.length vc) q'.l.length (strs q'.l) * (QAt 47 r q' * Old w)) by ac_rfl)
        go_upto_region 32 with fail
        go_cut [137] (fun s137 wx => s137 = .bool false ∧ ∃ n, w6.drewN n = wx)
        case first =>
          go_quiet ((first | (go_at_call 20; exact quiet_left (q_sent p q' w _ _ (hs.drewN _))) | (go_at_call 21; exact Calls.quiet_of (q_left p q' w _ _ (hs.drewN _) ok'))))
          go_wp2
          go_meet
          exact ⟨rfl, _, rfl⟩
        case rest =>
          obtain ⟨rfl, n, rfl⟩ := hcut
          replace h7 := h7.drewN n
          clear e0 hs h6
          generalize w6.drewN n = w7 at *
          go_wp2_with fail
          go_loopw [140] (fun i wr => ∃ (j : Nat), j ≤ q'.l.length ∧ i = .int .i64 j ∧ ∃ n, w7.drewN n = wr) (fun i _ => q'.l.length - (intOf i).toNat)
          case atStart => exact ⟨0, by omega, rfl, 0, rfl⟩
          case round =>
            obtain ⟨j, hj, rfl, n2, rfl⟩ := hrel
            have h8 := h7.drewN n2
            generalize hw : w7.drewN n2 = w8 at *
            have Hw := Lib.hid hw
            clear hw
            have e0 := h8.cell
            by_cases hlj : j < q'.l.length
            · rcases (h8.eq (star_left_comm _ _ _)).row with ⟨_, z0, z1, _⟩ | ⟨g1, off1, cap1, cur1, z0, b1, b2, b3, b4, hr1⟩
              · omega
              rcases (h8.eq (star_3 _ _ _ _)).row with ⟨_, y0, y1, _⟩ | ⟨g2, off2, cap2, cur2, y0, d1, d2, d3, d4, hr2⟩
              · omega
              simp only [Value.slice.injEq] at z0 y0
              obtain ⟨rfl, _, rfl⟩ := z0
              obtain ⟨rfl, _, rfl⟩ := y0
              have c1 : w8.cell? ⟨g1, off1 + j, none⟩ = some (.string q'.l[j]) := by
                have := hr1.cell (off1 + j)
                rw [b4 _ (by omega)] at this
                exact this.trans (by simp [hlj])
              have c2 : w8.cell? ⟨g2, off2 + j, none⟩ = some (.string q'.l[j]) := by
                have := hr2.cell (off2 + j)
                rw [d4 _ (by omega)] at this
                exact this.trans (by simp [hlj])
              clear b4 d4 hr1 hr2
              go_upto_region 37 with fail
              go_quiet (fail)
              go_wp2
              refine ⟨⟨j + 1, by omega, by go_num, n2 + nq, ?_⟩, by simp [intOf]; omega⟩
              rw [← World.drewN_drewN, Hw.out]
            · go_wp2
              refine ⟨⟨k + 1, q', by omega, by go_num, ok', ?_⟩, by simp [intOf]; omega⟩
              exact (h8.eq (show _ = Row 9 1 (.slice va q'.l.length vc) q'.l.length (strs q'.l) * (blk r _ * (Row 9 1 (.slice ra q'.l.length rc) q'.l.length (strs q'.l) * (QAt 78 p q' * Old w))) by ac_rfl)).drop.q_shut rfl rfl rfl rfl
    · go_wp2
      go_ret
      exact ⟨rfl, h3.drop.drop.old0⟩
end Go.Proofs.Ytopjbiiddaoklaa
