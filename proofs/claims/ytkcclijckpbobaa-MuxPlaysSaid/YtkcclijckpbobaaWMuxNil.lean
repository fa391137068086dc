/- MuxNil: the walk; what an act is. -/
import Derived.Test.YtkcclijckpbobaaWMuxWakes
import Derived.BigQuiet
namespace Go.Proofs.Ytkcclijckpbobaa
open Go.RowKit

section
variable {w0 w : World} {R : HP}
theorem xn_join (a b i : Int) (h : St w0 w R) : Calls Try.prog 14 #[.pointer none, .agg #[.int .i64 a, .int .i64 b], .int .i64 i] w fun e w' => e = .returned (.int .i64 1) ∧ St w0 w' R := by
  have h1 := (h.alloc (.cells #[.int .i64 a, .int .i64 b] 38)).drop
  go_enter Try.func14, Try.ntmps14
  go_wp2
  go_ret
  exact ⟨rfl, h1⟩
theorem xn_leave (a b : Int) (h : St w0 w R) : Calls Try.prog 15 #[.pointer none, .agg #[.int .i64 a, .int .i64 b]] w fun e w' => e = .returned (.bool false) ∧ St w0 w' R := by
  have h1 := (h.alloc (.cells #[.int .i64 a, .int .i64 b] 38)).drop
  go_enter Try.func15, Try.ntmps15
  go_wp2
  go_ret
  exact ⟨rfl, h1⟩
theorem xn_links (i : Int) (h : St w0 w R) : Calls Try.prog 9 #[.pointer none, .int .i64 i] w fun e w' => e = .returned (.slice none 0 0) ∧ St w0 w' R := by
  go_enter Try.func9, Try.ntmps9
  go_wp2
  go_ret
  exact ⟨rfl, h⟩
theorem xn_route (a b : Int) (h : St w0 w R) : Calls Try.prog 12 #[.pointer none, .agg #[.int .i64 a, .int .i64 b]] w fun e w' => e = .returned (.slice none 0 0) ∧ St w0 w' R := by
  have h1 := (h.alloc (.cells #[.int .i64 a, .int .i64 b] 38)).drop
  go_enter Try.func12, Try.ntmps12
  go_wp2
  go_ret
  exact ⟨rfl, h1⟩
theorem xn_drop (i : Int) (h : St w0 w R) : Calls Try.prog 16 #[.pointer none, .int .i64 i] w fun e w' => e = .returned (.int .i64 0) ∧ St w0 w' R := by
  go_enter Try.func16, Try.ntmps16
  go_wp2_with fail
  refine (xn_links i h).mono ?_
  rintro e w1 ⟨rfl, h1⟩
  go_wp2
  go_loopw [13] (fun j wr => j = .int .i64 0 ∧ St w0 wr R) (fun _ _ => 0)
  case atStart => exact ⟨rfl, h1⟩
  case round =>
    obtain ⟨rfl, h2⟩ := hrel
    go_wp2
    go_ret
    exact ⟨rfl, h2⟩
end

structure MAct where
  d : Int
  s : Int
  t : Int
  id : Int
abbrev MAct.cells (a : MAct) : Array Value := #[.int .i64 a.d, .int .i64 a.s, .int .i64 a.t, .int .i64 a.id]
def MAct.ok (a : MAct) : Prop := (Lit.int .i64 a.s).wf = true ∧ (Lit.int .i64 a.t).wf = true ∧ (Lit.int .i64 a.id).wf = true ∧ (Lit.int .i64 a.d).wf = true
abbrev MASh : Sh := .pair (.int .i64) (.pair (.int .i64) (.pair (.int .i64) (.pair (.int .i64) .unit)))
theorem ma_one {w : World} {cs : List Value} (h : MASh.ok w cs) : ∃ a : MAct, cs = a.cells.toList ∧ a.ok := by
  obtain ⟨x1, y1, rfl, _, ⟨d, rfl, hd⟩, x2, y2, rfl, _, ⟨o, rfl, ho⟩, x3, y3, rfl, _, ⟨t, rfl, ht⟩, x4, y4, rfl, _, ⟨n, rfl, hn⟩, hu⟩ := h
  have : y4 = [] := hu
  subst this
  exact ⟨⟨d, o, t, n⟩, rfl, ho, ht, hn, hd⟩
theorem ma_script {w : World} {a : Option Addr} {len cap : Nat} (h : (Sh.slice MASh).ok w [.slice a len cap]) : len ≤ cap ∧ cap ≤ maxLen ∧ (0 < len → ∃ b off, a = some ⟨b, off, none⟩ ∧ b < w.heap.size ∧
    ∀ i, i < len → ∃ x : MAct, x.ok ∧ w.cell? ⟨b, off + i * 4, none⟩ = some (.int .i64 x.d) ∧ w.cell? ⟨b, off + i * 4 + 1, none⟩ = some (.int .i64 x.s) ∧ w.cell? ⟨b, off + i * 4 + 2, none⟩ = some (.int .i64 x.t) ∧ w.cell? ⟨b, off + i * 4 + 3, none⟩ = some (.int .i64 x.id)) := by
  obtain ⟨h1, h2, h3⟩ := Sh.slice_ok h (by decide)
  refine ⟨h1, h2, fun h0 => ?_⟩
  obtain ⟨b, off, ha, hb, hi⟩ := h3 h0
  refine ⟨b, off, ha, hb, fun i hil => ?_⟩
  obtain ⟨xs, _, hc, hx⟩ := hi i hil
  obtain ⟨x, rfl, ok⟩ := ma_one hx
  exact ⟨x, ok, hc 0 (by decide), hc 1 (by decide), hc 2 (by decide), hc 3 (by decide)⟩

set_option maxRecDepth 100000 in
set_option maxHeartbeats 3200000 in
theorem MuxNil.walk (a0 : Array Value) (w : World) (w0 : Sh.ok w MASh a0.toList) :
    Calls Try.prog 5 #[.agg a0] w fun e w' => e = .returned (.bool true) ∧ Below w.heap.size w w' := by
  obtain ⟨y, hy, yok⟩ := ma_one w0
  obtain rfl : a0 = y.cells := by cases a0; simp only at hy; rw [hy]
  obtain ⟨yd, ys, yt, yi⟩ := y
  have h0 := ((St.start w).alloc (.cells #[.int .i64 yd, .int .i64 ys, .int .i64 yt, .int .i64 yi] 29)).alloc (.cells #[.int .i64 ys, .int .i64 yt] 38)
  simp only [World.size_alloc] at h0
  clear w0 hy yok
  go_enter Try.func5, Try.ntmps5
  go_upto_region 3 with fail
  generalize (w.alloc _).alloc _ = w2 at *
  generalize w.heap.size = ga at *
  have c0 := h0.cell
  have b0 := h0.f2.cell
  go_region_held3 (fun w' => w'.cell? ⟨ga + 1, 0, none⟩ = some (.int .i64 ys) ∧ w'.cell? ⟨ga + 1, 1, none⟩ = some (.int .i64 yt) ∧ w'.cell? ⟨ga, 3, none⟩ = some (.int .i64 yi)) (first | exact ⟨c0 0, c0 1, b0 3⟩ | exact ⟨c1 0, c1 1, b1 3⟩ | exact ⟨c2 0, c2 1, b2 3⟩ | exact ⟨c3 0, c3 1, b3 3⟩ | exact ⟨c4 0, c4 1, b4 3⟩ | exact ⟨c5 0, c5 1, b5 3⟩ | exact ⟨c6 0, c6 1, b6 3⟩) (first
   | (go_at_call 8; refine (mx_wakes _ _ _ h0.drew).mono ?_; rintro e w4 ⟨rfl, h4⟩; have c1 := h4.cell; have b1 := h4.f2.cell)
   | (go_at_call 14; refine (xn_join ys yt yi h4).mono ?_; rintro e w5 ⟨rfl, h5⟩; have c2 := h5.cell; have b2 := h5.f2.cell)
   | (go_at_call 15; refine (xn_leave ys yt h5).mono ?_; rintro e w6 ⟨rfl, h6⟩; have c3 := h6.cell; have b3 := h6.f2.cell)
   | (go_at_call 16; refine (xn_drop yi h6).mono ?_; rintro e w7 ⟨rfl, h7⟩; have c4 := h7.cell; have b4 := h7.f2.cell)
   | (go_at_call 12; refine (xn_route ys yt h7).mono ?_; rintro e w8 ⟨rfl, h8⟩; have c5 := h8.cell; have b5 := h8.f2.cell)
   | (go_at_call 9; refine (xn_links yi h8).mono ?_; rintro e w9 ⟨rfl, h9⟩; have c6 := h9.cell; have b6 := h9.f2.cell))
  go_wp2
  go_ret
  exact ⟨rfl, h9.drop.drop.old0⟩
end Go.Proofs.Ytkcclijckpbobaa
