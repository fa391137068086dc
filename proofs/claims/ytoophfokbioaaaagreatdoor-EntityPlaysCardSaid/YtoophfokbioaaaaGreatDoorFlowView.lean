/- The flow's View. -/
import Derived.Test.YtoophfokbioaaaaGreatDoorFlowB
namespace Go.Proofs.YtoophfokbioaaaaGreatDoor
open Go.RowKit
set_option maxRecDepth 100000

/-- What View answers. -/
def Fl.view (s : Fl) : Array Value := #[.int .i64 s.vs, .int .i64 s.va, .int .i64 s.vr, .bool s.peer, .bool s.own, .bool s.refused, .int .i64 s.q.sent, .int .i64 ((s.q.l.length : Int) - s.q.sent)]

set_option maxHeartbeats 400000 in
theorem f_view (f : Nat) (s : Fl) (w0 w : World) (R : HP) (h : St w0 w (FAt TF TQ f s * R)) (ok : s.Ok) :
    Calls Tryz.prog 35 #[ptr f] w fun e w' => e = .returned (.agg s.view) ∧ St w0 w' (FAt TF TQ f s * R) := by
  obtain ⟨qp, h1⟩ := h.f_open
  obtain ⟨vs, va, vr, peer, own, refused, k, q⟩ := s
  have c := h1.cell
  have f := h1.free
  have okq := ok.q
  simp only [] at *
  have h2 := (h1.alloc (.cells #[.int .i64 0, .int .i64 0, .int .i64 0, .bool false, .bool false, .bool false, .int .i64 0, .int .i64 0] 41)).alloc (.cells #[.int .i64 vs, .int .i64 va, .int .i64 vr, .bool peer, .bool own, .bool refused] 120)
  have hq := h2.eq (show _ = QAt TQ qp q * _ from star_4 _ _ _ _ _)
  have lt := h1.lt
  go_enter Tryz.func35, Tryz.ntmps35
  go_upto_region 4 with fail
  generalize hw2 : (w.alloc (.cells #[.int .i64 0, .int .i64 0, .int .i64 0, .bool false, .bool false, .bool false, .int .i64 0, .int .i64 0] 41)).alloc (.cells #[.int .i64 vs, .int .i64 va, .int .i64 vr, .bool peer, .bool own, .bool refused] 120) = w2 at *
  have c2 := h2.cell
  have c3 := (h2.eq (star_left_comm _ _ _)).cell
  have f3 := (h2.eq (star_left_comm _ _ _)).free
  have c4 := (h2.eq (star_3 _ _ _ _)).cell
  have f4 := (h2.eq (star_3 _ _ _ _)).free
  simp only [World.size_alloc] at *
  clear hw2 c f
  generalize hg : w.heap.size = g at *
  have k0 : w2.cell? ⟨g + 1, 0, none⟩ = some (.int .i64 vs) := c2 0
  have k1 : w2.cell? ⟨g + 1, 1, none⟩ = some (.int .i64 va) := c2 1
  have k2 : w2.cell? ⟨g + 1, 2, none⟩ = some (.int .i64 vr) := c2 2
  have k3 : w2.cell? ⟨g + 1, 3, none⟩ = some (.bool peer) := c2 3
  have k4 : w2.cell? ⟨g + 1, 4, none⟩ = some (.bool own) := c2 4
  have k5 : w2.cell? ⟨g + 1, 5, none⟩ = some (.bool refused) := c2 5
  have k6 : w2.cell? ⟨f, 7, none⟩ = some (ptr qp) := c4 7
  clear hg c2 c4 f4
  have hne : f ≠ g := by omega
  have hne2 : g ≠ f := by omega
  go_region_held3 (fun w' => w'.cell? ⟨g + 1, 0, none⟩ = some (.int .i64 vs) ∧ w'.cell? ⟨g + 1, 1, none⟩ = some (.int .i64 va) ∧ w'.cell? ⟨g + 1, 2, none⟩ = some (.int .i64 vr) ∧ w'.cell? ⟨g + 1, 3, none⟩ = some (.bool peer) ∧ w'.cell? ⟨g + 1, 4, none⟩ = some (.bool own) ∧ w'.cell? ⟨g + 1, 5, none⟩ = some (.bool refused) ∧ w'.cell? ⟨f, 7, none⟩ = some (ptr qp)) (first | (with_reducible exact ⟨k0, k1, k2, k3, k4, k5, k6⟩) | (simp only [World.cell?_drew]; with_reducible exact ⟨k0, k1, k2, k3, k4, k5, k6⟩) | (with_reducible exact ⟨m0, m1, m2, m3, m4, m5, m6⟩) | go_keep) (first | (go_at_call 80; refine (q_sent qp q w0 _ _ hq.drew).mono ?_; rintro e w5 ⟨rfl, rfl⟩) | (go_at_call 81; refine (q_left qp q w0 _ _ hq.drew okq).mono ?_; rintro e w6 ⟨rfl, n, hw6⟩; have h6 : St w0 w6 _ := hw6 ▸ h2.drew.drewN n; clear hw6; have m0 := (h6.cell 0).trans (show _ = some (Value.int .i64 vs) from rfl); have m1 := (h6.cell 1).trans (show _ = some (Value.int .i64 va) from rfl); have m2 := (h6.cell 2).trans (show _ = some (Value.int .i64 vr) from rfl); have m3 := (h6.cell 3).trans (show _ = some (Value.bool peer) from rfl); have m4 := (h6.cell 4).trans (show _ = some (Value.bool own) from rfl); have m5 := (h6.cell 5).trans (show _ = some (Value.bool refused) from rfl); have m6 := ((h6.eq (star_3 _ _ _ _)).cell 7).trans (show _ = some (ptr qp) from rfl); have c6 := (h6.eq (star_left_comm _ _ _)).cell; have f6 := (h6.eq (star_left_comm _ _ _)).free))
  go_wp2
  have h9 := (((((((((h6.eq (star_left_comm _ _ _)).set 0 (.int .i64 vs)).set 1 (.int .i64 va)).set 2 (.int .i64 vr)).set 3 (.bool peer)).set 4 (.bool own)).set 5 (.bool refused)).set 6 (.int .i64 q.sent)).set 7 (.int .i64 ((q.l.length : Int) - q.sent)))
  generalize ((((((((w6.setCell ⟨g, 0, none⟩ (.int .i64 vs)).setCell ⟨g, 1, none⟩ (.int .i64 va)).setCell ⟨g, 2, none⟩ (.int .i64 vr)).setCell ⟨g, 3, none⟩ (.bool peer)).setCell ⟨g, 4, none⟩ (.bool own)).setCell ⟨g, 5, none⟩ (.bool refused)).setCell ⟨g, 6, none⟩ (.int .i64 q.sent)).setCell ⟨g, 7, none⟩ (.int .i64 ((q.l.length : Int) - q.sent))) = w9 at *
  have c9 := h9.cell
  refine bodyPost_ret (v := .agg (Fl.view ⟨vs, va, vr, peer, own, refused, k, q⟩)) (by simp [results, Tryz.results35, go_sem, Fl.view, c9]) rfl ⟨rfl, ?_⟩
  exact h9.drop.drop.f_shut rfl rfl
end Go.Proofs.YtoophfokbioaaaaGreatDoor
