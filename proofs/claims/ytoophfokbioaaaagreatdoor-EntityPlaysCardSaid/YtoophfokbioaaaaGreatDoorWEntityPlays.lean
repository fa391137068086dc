/- EntityPlays: the walk. -/
import Derived.Test.YtoophfokbioaaaaGreatDoorLawK
namespace Go.Proofs.YtoophfokbioaaaaGreatDoor
open Go.RowKit

set_option maxRecDepth 100000 in
set_option maxHeartbeats 3200000 in
theorem EntityPlays.walk (a0 : Int) (a1 : Int) (a2 : Option Addr) (len2 cap2 : Nat) (w : World) (hN : NamesAt w) (w0 : (Lit.int .i64 a0).wf = true) (w1 : (Lit.int .i64 a1).wf = true) (w2 : (Sh.slice acSh).ok w [.slice a2 len2 cap2]) :
    Calls Tryz.prog 3 #[.int .i64 a0, .int .i64 a1, .slice a2 len2 cap2] w fun e w' => e = .returned (.bool true) ∧ Below w.heap.size w w' := by
  obtain ⟨l1, l2, l3⟩ := ac_script w2
  have hO : ∀ w' (A : HP), St w w' (A * Old w) → NamesAt w' := fun w' A h => hN.old (h.eq (show _ = Old w * A by ac_rfl)).old hN.pos
  unfold maxLen at l2
  clear w0 w1 w2
  go_enter Tryz.func3, Tryz.ntmps3
  go_wp2_with fail
  refine (e_new a0 a1 w w _ (St.start w)).mono ?_
  rintro q v1 ⟨e, rfl, h1⟩
  go_wp2_with fail
  refine (n_new a0 a1 w v1 _ h1).mono ?_
  rintro q v2 ⟨r, rfl, h2⟩
  have hw := en_wakes w v2 _ (fun w' h => hO w' (RnAt r (newEn a0 a1) * EnAt e (newEn a0 a1)) (h.eq (by simp only [star_assoc]))) h2
  go_wp2_with fail
  refine hw.mono ?_
  rintro q v3 ⟨rfl, h3⟩
  have hs := l_sameEntity e r (newEn a0 a1) [] (ok_new a0 a1).b.fl w v3 (Old w) (h3.f2)
  clear h1 h2 h3 hw
  go_wp2_with fail
  refine hs.mono ?_
  rintro q v4 ⟨rfl, h4⟩
  clear hs
  go_upto_region 4 with fail
  go_cut [30, 31, 32] (fun s33 s34 s35 wx => ∃ m : Nat, m ≤ len2 ∧ m ≤ 100 ∧ s33 = .slice a2 m cap2 ∧ s34 = .int .i64 m ∧ s35 = .int .i64 0 ∧ v4 = wx)
  case first =>
    go_wp2
    all_goals (go_meet; first | exact ⟨len2, Nat.le_refl _, by omega, rfl, rfl, rfl, rfl⟩ | exact ⟨100, by omega, by omega, rfl, rfl, rfl, rfl⟩ | (refine ⟨(min (len2 : Int) 100).toNat, by omega, by omega, ?_, ?_, rfl, rfl⟩ <;> (first | rfl | (congr 1; omega))))
  case rest =>
    obtain ⟨m, hm, hm60, rfl, rfl, rfl, rfl⟩ := hcut
    have OK0 := Lib.hid (ok_new a0 a1)
    go_wp2
    go_loopw [32] (fun i wr => ∃ (k : Nat) (x : En) (l : List Fx), k ≤ m ∧ i = .int .i64 k ∧ Hid (x.Ok ∧ x.out = []) ∧ St w wr (EnAt e x * (RnAt r (x.setOut l) * Old w))) (fun i _ => m - (intOf i).toNat)
    case atStart => exact ⟨0, _, [], by omega, rfl, Lib.hid ⟨OK0.out, rfl⟩, h4⟩
    case round =>
      clear h4
      obtain ⟨k, x, l, hk, rfl, HG, h4⟩ := hrel
      by_cases hlt : k < m
      · obtain ⟨b, off, rfl, hb, hi⟩ := l3 (by omega)
        obtain ⟨y, yok, hy⟩ := hi k (by omega)
        obtain ⟨yDo, yask, ytimer, ytei, ydata, ⟨y1, y2, ycmd, yk, ypf, yns, ynr, yinf⟩, ynear, yN, yM⟩ := y
        have hbel := ((h4.eq (show _ = Old w * (EnAt e x * RnAt r (x.setOut l)) by ac_rfl))).old
        have hc := fun j (hj : j < 16) => (hbel.cell (p := ⟨b, off + k * 16 + j, none⟩) hb).trans (hy j hj)
        have d0 : wr.cell? ⟨b, off + k * 16, none⟩ = some (Value.int .i64 yDo) := (hc 0 (by decide)).trans (show _ = some (Value.int .i64 yDo) from rfl)
        have d1 := (hc 1 (by decide)).trans (show _ = some (Value.int .i64 yask) from rfl)
        have d2 := (hc 2 (by decide)).trans (show _ = some (Value.int .i64 ytimer) from rfl)
        have d3 := (hc 3 (by decide)).trans (show _ = some (Value.int .i64 ytei) from rfl)
        have d4 := (hc 4 (by decide)).trans (show _ = some (Value.string ydata) from rfl)
        have d5 := (hc 5 (by decide)).trans (show _ = some (Value.int .i64 y1) from rfl)
        have d6 := (hc 6 (by decide)).trans (show _ = some (Value.int .i64 y2) from rfl)
        have d7 := (hc 7 (by decide)).trans (show _ = some (Value.bool ycmd) from rfl)
        have d8 := (hc 8 (by decide)).trans (show _ = some (Value.int .i64 yk) from rfl)
        have d9 := (hc 9 (by decide)).trans (show _ = some (Value.bool ypf) from rfl)
        have d10 := (hc 10 (by decide)).trans (show _ = some (Value.int .i64 yns) from rfl)
        have d11 := (hc 11 (by decide)).trans (show _ = some (Value.int .i64 ynr) from rfl)
        have d12 := (hc 12 (by decide)).trans (show _ = some (Value.string yinf) from rfl)
        have d13 := (hc 13 (by decide)).trans (show _ = some (Value.bool ynear) from rfl)
        have d14 := (hc 14 (by decide)).trans (show _ = some (Value.int .i64 yN) from rfl)
        have d15 := (hc 15 (by decide)).trans (show _ = some (Value.int .i64 yM) from rfl)
        clear hi hc hy l3 hbel
        have h5 := h4.alloc (.cells (AcE.cells ⟨yDo, yask, ytimer, ytei, ydata, ⟨y1, y2, ycmd, yk, ypf, yns, ynr, yinf⟩, ynear, yN, yM⟩).toArray TAc)
        go_upto_region 7 with fail
        generalize wr.alloc _ = wa at *
        generalize wr.heap.size = ga at *
        have c0 := h5.cell
        have ha := l_act e r x l ⟨yDo, yask, ytimer, ytei, ydata, ⟨y1, y2, ycmd, yk, ypf, yns, ynr, yinf⟩, ynear, yN, yM⟩ HG.out.1 HG.out.2 yok w wa _ (fun w' A h => hO w' (A * blk ga (.cells (AcE.cells ⟨yDo, yask, ytimer, ytei, ydata, ⟨y1, y2, ycmd, yk, ypf, yns, ynr, yinf⟩, ynear, yN, yM⟩).toArray TAc (0, 0))) (h.eq (by simp only [star_assoc]))) (h5.eq (show _ = EnAt e x * (RnAt r (x.setOut l) * (blk ga (.cells (AcE.cells ⟨yDo, yask, ytimer, ytei, ydata, ⟨y1, y2, ycmd, yk, ypf, yns, ynr, yinf⟩, ynear, yN, yM⟩).toArray TAc (0, 0)) * Old w)) by ac_rfl))
        have ok' := ok_act HG.out.1 ⟨yDo, yask, ytimer, ytei, ydata, ⟨y1, y2, ycmd, yk, ypf, yns, ynr, yinf⟩, ynear, yN, yM⟩
        have ao := act_out x HG.out.2 ⟨yDo, yask, ytimer, ytei, ydata, ⟨y1, y2, ycmd, yk, ypf, yns, ynr, yinf⟩, ynear, yN, yM⟩
        generalize x.act _ = X at *
        obtain ⟨X1, Xl, Xc⟩ := X
        simp only [] at ha ok' ao
        clear h4 h5 yok d0 d1 d2 d3 d4 d5 d6 d7 d8 d9 d10 d11 d12 d13 d14 d15
        have OK := Lib.hid (And.intro ok' ao.1)
        clear ok' ao HG
        go_wp2_with fail
        refine ha.mono ?_
        rintro q v5 ⟨rfl, h6⟩
        have hs := l_sameEntity e r X1 Xl OK.out.1.b.fl w v5 _ h6
        clear ha h6 c0
        go_wp2_with fail
        refine hs.mono ?_
        rintro q v6 ⟨rfl, h7⟩
        clear hs
        go_wp2
        go_roundw
        case rel => exact ⟨k + 1, X1, Xl, by omega, by go_num, OK, h7.f3.drop⟩
        case measure => simp [intOf]; omega
      · have h8 := (h4.eq (show _ = Old w * (EnAt e x * RnAt r (x.setOut l)) by ac_rfl)).old
        go_wp2
        go_ret
        exact ⟨rfl, h8⟩
end Go.Proofs.YtoophfokbioaaaaGreatDoor
