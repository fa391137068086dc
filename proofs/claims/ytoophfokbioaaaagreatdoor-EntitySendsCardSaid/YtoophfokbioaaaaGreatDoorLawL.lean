/- The entity's laws: what a script leaves behind. -/
import Derived.Test.YtoophfokbioaaaaGreatDoorLawK
namespace Go.Proofs.YtoophfokbioaaaaGreatDoor
open Go.RowKit

def En.acts (f : Nat → AcE) : Nat → En → En
  | 0, x => x
  | n + 1, x => ((En.acts f n x).act (f n)).1
theorem acts_ok (f : Nat → AcE) (x : En) (h : x.Ok ∧ x.out = []) : ∀ n, (En.acts f n x).Ok ∧ (En.acts f n x).out = []
  | 0 => h
  | n + 1 => ⟨ok_act (acts_ok f x h n).1 _, (act_out _ (acts_ok f x h n).2 _).1⟩
def ScriptAt (w : World) (a : Option Addr) (len : Nat) (f : Nat → AcE) : Prop := 0 < len → ∃ b off, a = some ⟨b, off, none⟩ ∧ b < w.heap.size ∧
    ∀ i, i < len → (f i).Wf ∧ ∀ j, j < 16 → w.cell? ⟨b, off + i * 16 + j, none⟩ = (f i).cells[j]?
theorem script_fn {w : World} {a : Option Addr} {len cap : Nat} (h : (Sh.slice acSh).ok w [.slice a len cap]) : len ≤ cap ∧ cap ≤ maxLen ∧ ∃ f, ScriptAt w a len f := by
  obtain ⟨h1, h2, h3⟩ := ac_script h
  refine ⟨h1, h2, ?_⟩
  by_cases h0 : 0 < len
  · obtain ⟨b, off, ha, hb, hi⟩ := h3 h0
    obtain ⟨d, _⟩ := hi 0 h0
    have hj : ∀ i, ∃ x : AcE, i < len → x.Wf ∧ ∀ j, j < 16 → w.cell? ⟨b, off + i * 16 + j, none⟩ = x.cells[j]? := fun i => by
      by_cases hl : i < len
      · obtain ⟨x, hx⟩ := hi i hl
        exact ⟨x, fun _ => hx⟩
      · exact ⟨d, fun h => absurd h hl⟩
    exact ⟨fun i => Classical.choose (hj i), fun _ => ⟨b, off, ha, hb, fun i hl => Classical.choose_spec (hj i) hl⟩⟩
  · exact ⟨fun _ => ⟨0, 0, 0, 0, noStr, Fr.none, false, 0, 0⟩, fun h => absurd h h0⟩

set_option maxRecDepth 100000 in
set_option maxHeartbeats 3200000 in
theorem l_after (a0 a1 : Int) (sa : Option Addr) (len cap : Nat) (f : Nat → AcE) (w0 w : World) (R : HP) (l1 : len ≤ cap) (l2 : cap ≤ maxLen) (l3 : ScriptAt w0 sa len f) (hN : NamesAt w0) (h : St w0 w (R * Old w0)) :
    Calls Tryz.prog 15 #[.int .i64 a0, .int .i64 a1, .slice sa len cap] w fun q w' => ∃ e r l, q = .returned (.tuple #[ptr e, ptr r]) ∧ St w0 w' (EnAt e (En.acts f (min len 60) (newEn a0 a1)) * (RnAt r ((En.acts f (min len 60) (newEn a0 a1)).setOut l) * (R * Old w0))) := by
  have hO : ∀ w' (A : HP), St w0 w' (A * (R * Old w0)) → NamesAt w' := fun w' A h => hN.old (h.eq (show _ = Old w0 * (A * R) by ac_rfl)).old hN.pos
  unfold maxLen at l2
  unfold ScriptAt at l3
  obtain ⟨N, hNN⟩ : ∃ N, newEn a0 a1 = N := ⟨_, rfl⟩
  obtain ⟨m, hM⟩ : ∃ m, min len 60 = m := ⟨_, rfl⟩
  have hOK := acts_ok f (newEn a0 a1) ⟨ok_new a0 a1, rfl⟩
  have hce := e_new a0 a1 w0 w _ h
  have hcn := fun v R h => n_new a0 a1 w0 v R h
  rw [hNN] at hOK hce hcn ⊢
  rw [hM]
  have HOK := Lib.hid hOK
  clear hNN hOK hN
  go_enter Tryz.func15, Tryz.ntmps15
  go_wp2_with fail
  refine hce.mono ?_
  rintro q v1 ⟨e, rfl, h1⟩
  have hc := hcn v1 _ h1
  clear hce hcn
  go_wp2_with fail
  refine hc.mono ?_
  rintro q v2 ⟨r, rfl, h2⟩
  have h3 : St w0 v2 (EnAt e N * (RnAt r (N.setOut []) * (R * Old w0))) := by
    rw [setOut_self (show N.out = [] from (HOK.out 0).2)]
    exact h2.f2
  clear h h1 h2 hc
  go_upto_region 2 with fail
  go_cut [23, 24, 25] (fun s33 s34 s35 wx => s33 = .slice sa m cap ∧ s34 = .int .i64 m ∧ s35 = .int .i64 0 ∧ v2 = wx)
  case first =>
    go_wp2
    all_goals (go_meet; refine ⟨?_, ?_, rfl, rfl⟩ <;> (first | rfl | (congr 1; omega) | (rw [show len = m by omega]) | (rw [show m = 60 by omega]; rfl)))
  case rest =>
    obtain ⟨rfl, rfl, rfl, rfl⟩ := hcut
    have hml : m ≤ len := by omega
    clear hM
    go_wp2
    go_loopw [25] (fun i wr => ∃ (k : Nat) (l : List Fx), k ≤ m ∧ i = .int .i64 k ∧ St w0 wr (EnAt e (En.acts f k N) * (RnAt r ((En.acts f k N).setOut l) * (R * Old w0)))) (fun i _ => m - (intOf i).toNat)
    case atStart => exact ⟨0, [], by omega, rfl, h3⟩
    case round =>
      clear h3
      obtain ⟨k, l, hk, rfl, h4⟩ := hrel
      by_cases hlt : k < m
      · obtain ⟨b, off, rfl, hb, hi⟩ := l3 (by omega)
        obtain ⟨yok, hy⟩ := hi k (by omega)
        obtain ⟨y, hyf⟩ : ∃ y, f k = y := ⟨_, rfl⟩
        have hst : En.acts f (k + 1) N = ((En.acts f k N).act y).1 := by rw [← hyf]; rfl
        rw [hyf] at yok hy
        have HST := Lib.hid hst
        clear hyf hst
        obtain ⟨yDo, yask, ytimer, ytei, ydata, ⟨y1, y2, ycmd, yk, ypf, yns, ynr, yinf⟩, ynear, yN, yM⟩ := y
        have hbel := ((h4.eq (show _ = Old w0 * (EnAt e (En.acts f k N) * (RnAt r ((En.acts f k N).setOut l) * R)) by ac_rfl))).old
        have hc := fun j (hj : j < 16) => (hbel.cell (p := ⟨b, off + k * 16 + j, none⟩) hb).trans (hy j hj)
        have d0 : wr.cell? ⟨b, off + k * 16, none⟩ = some (Value.int .i64 yDo) := (hc 0 (by decide)).trans (show _ = some (Value.int .i64 yDo) from rfl)
        have d1 := (hc 1 (by decide)).trans (show _ = some (Value.int .i64 yask) from rfl)
        have d2 := (hc 2 (by decide)).trans (show _ = some (Value.int .i64 ytimer) from rfl)
        have d3 := (hc 3 (by decide)).trans (show _ = some (Value.int .i64 ytei) from rfl)
        have d4 := (hc 4 (by decide)).trans (show _ = some (Value.string ydata) from rfl)
        have d5 := (hc 5 (by decide)).trans (show _ = some (Value.int .i64 y1) from rfl)
        have d6 := (hc 6 (by decide)).trans (show _ = some (Value.int .i64 y2) from rfl)
        have d7 := (hc 7 (by decide)).trans (show _ = some (Value.bool ycmd) from rfl)
        have d8 := (hc 8 (by decide)).trans (show _ = some (Value.int .i64 yk) from rfl)
        have d9 := (hc 9 (by decide)).trans (show _ = some (Value.bool ypf) from rfl)
        have d10 := (hc 10 (by decide)).trans (show _ = some (Value.int .i64 yns) from rfl)
        have d11 := (hc 11 (by decide)).trans (show _ = some (Value.int .i64 ynr) from rfl)
        have d12 := (hc 12 (by decide)).trans (show _ = some (Value.string yinf) from rfl)
        have d13 := (hc 13 (by decide)).trans (show _ = some (Value.bool ynear) from rfl)
        have d14 := (hc 14 (by decide)).trans (show _ = some (Value.int .i64 yN) from rfl)
        have d15 := (hc 15 (by decide)).trans (show _ = some (Value.int .i64 yM) from rfl)
        clear hi hc hy l3 hbel
        have HG := Lib.hid (HOK.out k)
        generalize En.acts f k N = x at *
        have h5 := h4.alloc (.cells (AcE.cells ⟨yDo, yask, ytimer, ytei, ydata, ⟨y1, y2, ycmd, yk, ypf, yns, ynr, yinf⟩, ynear, yN, yM⟩).toArray TAc)
        go_upto_region 5 with fail
        generalize wr.alloc _ = wa at *
        generalize wr.heap.size = ga at *
        have c0 := h5.cell
        have ha := l_act e r x l ⟨yDo, yask, ytimer, ytei, ydata, ⟨y1, y2, ycmd, yk, ypf, yns, ynr, yinf⟩, ynear, yN, yM⟩ HG.out.1 HG.out.2 yok w0 wa _ (fun w' A h => hO w' (A * blk ga (.cells (AcE.cells ⟨yDo, yask, ytimer, ytei, ydata, ⟨y1, y2, ycmd, yk, ypf, yns, ynr, yinf⟩, ynear, yN, yM⟩).toArray TAc (0, 0))) (h.eq (by simp only [star_assoc]))) (h5.eq (show _ = EnAt e x * (RnAt r (x.setOut l) * (blk ga (.cells (AcE.cells ⟨yDo, yask, ytimer, ytei, ydata, ⟨y1, y2, ycmd, yk, ypf, yns, ynr, yinf⟩, ynear, yN, yM⟩).toArray TAc (0, 0)) * (R * Old w0))) by ac_rfl))
        generalize x.act _ = X at *
        obtain ⟨X1, Xl, Xc⟩ := X
        simp only [] at ha
        clear h4 h5 yok d0 d1 d2 d3 d4 d5 d6 d7 d8 d9 d10 d11 d12 d13 d14 d15 HG
        go_wp2_with fail
        refine ha.mono ?_
        rintro q v5 ⟨rfl, h6⟩
        clear ha c0
        go_wp2
        go_roundw
        case rel =>
          have e1 : En.acts f (k + 1) N = X1 := HST.out
          exact ⟨k + 1, Xl, by omega, by go_num, by rw [e1]; exact h6.f3.drop⟩
        case measure => simp [intOf]; omega
      · obtain rfl : k = m := by omega
        go_wp2
        refine bodyPost_ret (v := .tuple #[ptr e, ptr r]) (by simp [results, Tryz.results15, go_sem]) rfl ⟨e, r, l, rfl, h4⟩
end Go.Proofs.YtoophfokbioaaaaGreatDoor
