/- The flow laws' own helpers: same, wakes. -/
import Derived.Test.YtopjbiiddaoklaaFlowAct
namespace Go.Proofs.Ytopjbiiddaoklaa
open Go.RowKit

abbrev TV : TypeId := 57

set_option maxRecDepth 100000 in
theorem view_eql (a b c g h a' b' c' g' h' : Int) (x y z x' y' z' : Bool) (w : World) :
    (binOp .eql 57 (.agg #[.int .i64 a, .int .i64 b, .int .i64 c, .bool x, .bool y, .bool z, .int .i64 g, .int .i64 h]) (.agg #[.int .i64 a', .int .i64 b', .int .i64 c', .bool x', .bool y', .bool z', .int .i64 g', .int .i64 h'])).run Try.prog w =
      .ok (.bool (a == a' && (b == b' && (c == c' && (x == x' && (y == y' && (z == z' && (g == g' && h == h')))))))) w := by
  rw [run_eql_struct]
  rw [run_equalIn_agg (P := Try.prog) w 9999 57 _ _ (by kernel_rfl) (by kernel_rfl)]
  go_simp
  repeat' split
  all_goals simp_all

theorem view_same (s : Fl) (w : World) :
    (binOp .eql 57 (.agg s.view) (.agg #[.int .i64 s.vs, .int .i64 s.va, .int .i64 s.vr, .bool s.peer, .bool s.own, .bool s.refused, .int .i64 s.q.sent, .int .i64 ((s.q.l.length : Int) - s.q.sent)])).run Try.prog w = .ok (.bool true) w := by
  unfold Fl.view
  rw [view_eql]
  simp

set_option maxRecDepth 100000 in
set_option maxHeartbeats 3200000 in
theorem fl_same (f r : Nat) (s : Fl) (w0 w : World) (R : HP) (h : St w0 w (FAt TF TQ f s * (FAt TG TR r s * R))) (ok : s.Ok) :
    Calls Try.prog 41 #[ptr f, ptr r] w fun e w' => e = .returned (.bool true) ∧ St w0 w' (FAt TF TQ f s * (FAt TG TR r s * R)) := by
  obtain ⟨rq, hr⟩ := (h.eq (star_left_comm _ _ _)).f_open
  obtain ⟨lv, hq⟩ := (hr.eq (star_left_comm _ _ _)).q_open
  obtain ⟨ra, rc, rfl, _, _⟩ := hq.drop.row_shape
  have n2 := ok.q.len
  have n3 := ok.q.sl
  have k0 := (hr.cell 0).trans (show _ = some (Value.int .i64 s.vs) from rfl)
  have k1 := (hr.cell 1).trans (show _ = some (Value.int .i64 s.va) from rfl)
  have k2 := (hr.cell 2).trans (show _ = some (Value.int .i64 s.vr) from rfl)
  have k3 := (hr.cell 3).trans (show _ = some (Value.bool s.peer) from rfl)
  have k4 := (hr.cell 4).trans (show _ = some (Value.bool s.own) from rfl)
  have k5 := (hr.cell 5).trans (show _ = some (Value.bool s.refused) from rfl)
  have k7 := (hr.cell 7).trans (show _ = some (ptr rq) from rfl)
  have q1 := (hq.cell 1).trans (show _ = some (Value.slice ra s.q.l.length rc) from rfl)
  have q2 := (hq.cell 2).trans (show _ = some (Value.int .i64 s.q.sent) from rfl)
  have hf := hq.eq (star_4 _ _ _ _ _)
  have hwr : IntKind.i64.wrap ((s.q.l.length : Int) - s.q.sent) = (s.q.l.length : Int) - s.q.sent := by rw [IntKind.wrap_i64]; omega
  have heq := view_same s
  have hgd := fun (w : World) (x y : Operand) (ys : Array Value) => run_eqGuard_agg (P := Try.prog) w .eql 57 x y s.view ys (by kernel_rfl)
  go_enter Try.func41, Try.ntmps41
  go_upto_region 1 with fail
  go_region_held3 (fun w' => w'.cell? ⟨r, 0, none⟩ = some (.int .i64 s.vs) ∧ w'.cell? ⟨r, 1, none⟩ = some (.int .i64 s.va) ∧ w'.cell? ⟨r, 2, none⟩ = some (.int .i64 s.vr) ∧ w'.cell? ⟨r, 3, none⟩ = some (.bool s.peer) ∧ w'.cell? ⟨r, 4, none⟩ = some (.bool s.own) ∧ w'.cell? ⟨r, 5, none⟩ = some (.bool s.refused) ∧ w'.cell? ⟨r, 7, none⟩ = some (ptr rq) ∧ w'.cell? ⟨rq, 1, none⟩ = some (.slice ra s.q.l.length rc) ∧ w'.cell? ⟨rq, 2, none⟩ = some (.int .i64 s.q.sent)) (first | (simp only [World.cell?_drew]; with_reducible exact ⟨k0, k1, k2, k3, k4, k5, k7, q1, q2⟩) | (with_reducible exact ⟨m0, m1, m2, m3, m4, m5, m7, p1, p2⟩)) (first | (go_at_call 36; refine (f_view f s w0 _ _ hf.drew ok).mono ?_; rintro e w2 ⟨rfl, h2⟩; generalize hv : Value.agg s.view = v at *; clear hv; have h3 := h2.eq (star_4 _ _ _ _ _).symm; have h4 := h3.eq (star_3 _ _ _ _); have m0 := (h4.cell 0).trans (show _ = some (Value.int .i64 s.vs) from rfl); have m1 := (h4.cell 1).trans (show _ = some (Value.int .i64 s.va) from rfl); have m2 := (h4.cell 2).trans (show _ = some (Value.int .i64 s.vr) from rfl); have m3 := (h4.cell 3).trans (show _ = some (Value.bool s.peer) from rfl); have m4 := (h4.cell 4).trans (show _ = some (Value.bool s.own) from rfl); have m5 := (h4.cell 5).trans (show _ = some (Value.bool s.refused) from rfl); have m7 := (h4.cell 7).trans (show _ = some (ptr rq) from rfl); have p1 := (h3.cell 1).trans (show _ = some (Value.slice ra s.q.l.length rc) from rfl); have p2 := (h3.cell 2).trans (show _ = some (Value.int .i64 s.q.sent) from rfl)))
  go_wp2
  go_ret
  refine ⟨by simp, ?_⟩
  exact ((((h3.q_shut rfl rfl rfl rfl).eq (star_left_comm _ _ _)).f_shut rfl rfl).eq (star_left_comm _ _ _))
end Go.Proofs.Ytopjbiiddaoklaa
