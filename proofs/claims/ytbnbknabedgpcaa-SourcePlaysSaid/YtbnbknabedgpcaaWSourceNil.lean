/- SourceNil: the walk. -/
import Derived.Test.YtbnbknabedgpcaaWSrcWakes
import Derived.Test.YtbnbknabedgpcaaLaw
namespace Go.Proofs.Ytbnbknabedgpcaa
open Go.RowKit

section
variable {w0 w : World} {R : HP}
theorem sn_check (t : Int) (h : St w0 w R) : Calls Try.prog 39 #[.pointer none, .int .i64 t] w fun e w' => e = .returned (.tuple #[.slice none 0 0, .int .i64 1]) ∧ St w0 w' R := by
  go_enter Try.func39, Try.ntmps39
  go_wp2
  go_ret2
  exact ⟨rfl, h⟩
theorem sn_remove (t : Int) (h : St w0 w R) : Calls Try.prog 40 #[.pointer none, .int .i64 t] w fun e w' => e = .returned (.tuple #[.slice none 0 0, .int .i64 1]) ∧ St w0 w' R := by
  go_enter Try.func40, Try.ntmps40
  go_wp2
  go_ret2
  exact ⟨rfl, h⟩
theorem sn_audit (h : St w0 w R) : Calls Try.prog 33 #[.pointer none] w fun e w' => e = .returned (.slice none 0 0) ∧ St w0 w' R := by
  go_enter Try.func33, Try.ntmps33
  go_wp2
  go_ret
  exact ⟨rfl, h⟩
theorem sn_timeout (t : Int) (h : St w0 w R) : Calls Try.prog 34 #[.pointer none, .int .i64 t] w fun e w' => e = .returned (.slice none 0 0) ∧ St w0 w' R := by
  go_enter Try.func34, Try.ntmps34
  go_wp2
  go_ret
  exact ⟨rfl, h⟩
theorem sn_list (h : St w0 w R) : Calls Try.prog 17 #[.pointer none] w fun e w' => e = .returned (.slice none 0 0) ∧ St w0 w' R := by
  go_enter Try.func17, Try.ntmps17
  go_wp2
  go_ret
  exact ⟨rfl, h⟩
theorem sn_checks (h : St w0 w R) : Calls Try.prog 32 #[.pointer none] w fun e w' => e = .returned (.slice none 0 0) ∧ St w0 w' R := by
  go_enter Try.func32, Try.ntmps32
  go_wp2
  go_ret
  exact ⟨rfl, h⟩
theorem sn_message (a b c : Int) (h : St w0 w R) : Calls Try.prog 15 #[.pointer none, .agg #[.int .i64 a, .int .i64 b, .int .i64 c]] w fun e w' => e = .returned (.slice none 0 0) ∧ St w0 w' R := by
  have h1 := (h.alloc (.cells #[.int .i64 a, .int .i64 b, .int .i64 c] 29))
  have hp := m_put ⟨a, b, c⟩ w0 _ _ h1
  go_enter Try.func15, Try.ntmps15
  go_wp2_with fail
  refine hp.mono ?_
  rintro e w2 ⟨⟨s, rfl⟩, h2⟩
  go_wp2
  go_ret
  exact ⟨rfl, h2.drop⟩
theorem sn_made (d ty ri ai off : Int) (h : St w0 w R) : Calls Try.prog 41 #[.agg #[.int .i64 d, .int .i64 ty, .int .i64 ri, .int .i64 ai, .int .i64 off]] w fun e w' => e = .returned (.agg #[.int .i64 ty, .int .i64 ri, .int .i64 ai]) ∧ St w0 w' R := by
  have h1 := ((h.alloc (.cells #[.int .i64 d, .int .i64 ty, .int .i64 ri, .int .i64 ai, .int .i64 off] 80)).alloc (.cells #[.int .i64 ty, .int .i64 ri, .int .i64 ai] 29))
  simp only [World.size_alloc] at h1
  have c := h1.cell
  have c0 := c 0
  have c1 := c 1
  have c2 := c 2
  have h2 := h1.drop.drop
  go_enter Try.func41, Try.ntmps41
  go_wp2
  refine bodyPost_ret (v := .agg #[.int .i64 ty, .int .i64 ri, .int .i64 ai]) (by simp [results, Try.results41, go_sem, c]) rfl ⟨rfl, h2⟩
end

structure SrcAct where
  d : Int
  ty : Int
  ri : Int
  ai : Int
  off : Int
abbrev SrcAct.cells (a : SrcAct) : Array Value := #[.int .i64 a.d, .int .i64 a.ty, .int .i64 a.ri, .int .i64 a.ai, .int .i64 a.off]
def SrcAct.ok (a : SrcAct) : Prop := kInt.ok a.ai ∧ (Lit.int .i64 a.d).wf = true ∧ (Lit.int .i64 a.ty).wf = true ∧ (Lit.int .i64 a.ri).wf = true ∧ (Lit.int .i64 a.off).wf = true
abbrev SASh : Sh := .pair (.int .i64) (.pair (.int .i64) (.pair (.int .i64) (.pair (.int .i64) (.pair (.int .i64) .unit))))
theorem sa_one {w : World} {cs : List Value} (h : SASh.ok w cs) : ∃ a : SrcAct, cs = a.cells.toList ∧ a.ok := by
  obtain ⟨x1, y1, rfl, _, ⟨d, rfl, hd⟩, x2, y2, rfl, _, ⟨o, rfl, ho⟩, x3, y3, rfl, _, ⟨t, rfl, ht⟩, x4, y4, rfl, _, ⟨n, rfl, hn⟩, x5, y5, rfl, _, ⟨p, rfl, hp⟩, hu⟩ := h
  have : y5 = [] := hu
  subst this
  exact ⟨⟨d, o, t, n, p⟩, rfl, hn, hd, ho, ht, hp⟩
theorem sa_script {w : World} {a : Option Addr} {len cap : Nat} (h : (Sh.slice SASh).ok w [.slice a len cap]) : len ≤ cap ∧ cap ≤ maxLen ∧ (0 < len → ∃ b off, a = some ⟨b, off, none⟩ ∧ b < w.heap.size ∧
    ∀ i, i < len → ∃ x : SrcAct, x.ok ∧ w.cell? ⟨b, off + i * 5, none⟩ = some (.int .i64 x.d) ∧ w.cell? ⟨b, off + i * 5 + 1, none⟩ = some (.int .i64 x.ty) ∧ w.cell? ⟨b, off + i * 5 + 2, none⟩ = some (.int .i64 x.ri) ∧ w.cell? ⟨b, off + i * 5 + 3, none⟩ = some (.int .i64 x.ai) ∧ w.cell? ⟨b, off + i * 5 + 4, none⟩ = some (.int .i64 x.off)) := by
  obtain ⟨h1, h2, h3⟩ := Sh.slice_ok h (by decide)
  refine ⟨h1, h2, fun h0 => ?_⟩
  obtain ⟨b, off, ha, hb, hi⟩ := h3 h0
  refine ⟨b, off, ha, hb, fun i hil => ?_⟩
  obtain ⟨xs, _, hc, hx⟩ := hi i hil
  obtain ⟨x, rfl, ok⟩ := sa_one hx
  exact ⟨x, ok, hc 0 (by decide), hc 1 (by decide), hc 2 (by decide), hc 3 (by decide), hc 4 (by decide)⟩

set_option maxRecDepth 100000 in
set_option maxHeartbeats 3200000 in
theorem SourceNil.walk (a0 : Array Value) (w : World) (w0 : Sh.ok w SASh a0.toList) :
    Calls Try.prog 13 #[.agg a0] w fun e w' => e = .returned (.bool true) ∧ Below w.heap.size w w' := by
  obtain ⟨y, hy, yok⟩ := sa_one w0
  obtain rfl : a0 = y.cells := by cases a0; simp only at hy; rw [hy]
  obtain ⟨yd, yt, yr, ya, yo⟩ := y
  have h0 := (St.start w).alloc (.cells #[.int .i64 yd, .int .i64 yt, .int .i64 yr, .int .i64 ya, .int .i64 yo] 80)
  clear w0 hy yok
  go_enter Try.func13, Try.ntmps13
  go_wp2_with fail
  refine (sn_check ya h0).mono ?_
  rintro e w2 ⟨rfl, h2⟩
  have c0 := h2.cell
  go_wp2_with fail
  refine (sn_remove ya h2).mono ?_
  rintro e w3 ⟨rfl, h3⟩
  clear c0 h0 h2
  have c0 := h3.cell
  go_upto_region 4 with fail
  generalize w.heap.size = ga at *
  go_region_held3 (fun w' => w'.cell? ⟨ga, 0, none⟩ = some (.int .i64 yd) ∧ w'.cell? ⟨ga, 1, none⟩ = some (.int .i64 yt) ∧ w'.cell? ⟨ga, 2, none⟩ = some (.int .i64 yr) ∧ w'.cell? ⟨ga, 3, none⟩ = some (.int .i64 ya) ∧ w'.cell? ⟨ga, 4, none⟩ = some (.int .i64 yo)) (first | exact ⟨c0 0, c0 1, c0 2, c0 3, c0 4⟩ | exact ⟨c1 0, c1 1, c1 2, c1 3, c1 4⟩ | exact ⟨c2 0, c2 1, c2 2, c2 3, c2 4⟩ | exact ⟨c3 0, c3 1, c3 2, c3 3, c3 4⟩ | exact ⟨c4 0, c4 1, c4 2, c4 3, c4 4⟩ | exact ⟨c5 0, c5 1, c5 2, c5 3, c5 4⟩ | exact ⟨c6 0, c6 1, c6 2, c6 3, c6 4⟩ | exact ⟨c7 0, c7 1, c7 2, c7 3, c7 4⟩) (first
   | (go_at_call 16; refine (so_wakes _ _ _ h3.drew).mono ?_; rintro e w4 ⟨rfl, h4⟩; have c1 := h4.cell)
   | (go_at_call 41; refine (sn_made yd yt yr ya yo h4).mono ?_; rintro e w5 ⟨rfl, h5⟩; have c2 := h5.cell)
   | (go_at_call 15; refine (sn_message yt yr ya h5).mono ?_; rintro e w6 ⟨rfl, h6⟩; have c3 := h6.cell)
   | (go_at_call 33; refine (sn_audit h6).mono ?_; rintro e w7 ⟨rfl, h7⟩; have c4 := h7.cell)
   | (go_at_call 34; refine (sn_timeout ya h7).mono ?_; rintro e w8 ⟨rfl, h8⟩; have c5 := h8.cell)
   | (go_at_call 17; refine (sn_list h8).mono ?_; rintro e w9 ⟨rfl, h9⟩; have c6 := h9.cell)
   | (go_at_call 32; refine (sn_checks h9).mono ?_; rintro e w10 ⟨rfl, h10⟩; have c7 := h10.cell))
  go_wp2
  go_ret
  exact ⟨rfl, h10.drop.old0⟩
end Go.Proofs.Ytbnbknabedgpcaa
