/- One act of the flow laws, on both flows. -/
import Derived.Test.YtopjbiiddaoklaaFlowOk
namespace Go.Proofs.Ytopjbiiddaoklaa
open Go.RowKit

structure FAct where
  Do : Int
  N : Int
  Near : Bool
  On : Bool
  Data : ByteArray

abbrev FAct.cells (a : FAct) : Array Value := #[.int .i64 a.Do, .int .i64 a.N, .bool a.Near, .bool a.On, .string a.Data]

theorem two_end {w0 w : World} {f r g : Nat} {s t : Fl} {o : Obj} {R : HP} (h : St w0 w (FAt TG TR r s * (FAt TF TQ f t * (blk g o * R)))) : St w0 w (FAt TF TQ f t * (FAt TG TR r s * R)) :=
  (h.eq (show _ = blk g o * (FAt TF TQ f t * (FAt TG TR r s * R)) by ac_rfl)).drop

set_option maxRecDepth 100000 in
set_option maxHeartbeats 3200000 in
theorem fl_act (f r : Nat) (s : Fl) (a : FAct) (w0 w : World) (R : HP) (h : St w0 w (FAt TF TQ f s * (FAt TG TR r s * R))) (ok : s.Ok) :
    Calls Try.prog 42 #[ptr f, ptr r, .agg a.cells] w fun e w' => e = .returned (.bool true) ∧ ∃ s' : Fl, s'.Ok ∧ s.Like s' ∧ St w0 w' (FAt TF TQ f s' * (FAt TG TR r s' * R)) := by
  have h0 := h.alloc (.cells a.cells 67)
  have c0 := h0.cell
  have e255 := i64_and255 a.N
  go_enter Try.func42, Try.ntmps42
  go_upto_if 22 with fail
  go_cut [7] (fun s7 wx => ∃ n : Int, s7 = .int .i64 n ∧ w.alloc (.cells a.cells 67) = wx)
  case first =>
    go_wp2
    all_goals (go_meet; exact ⟨_, rfl, rfl⟩)
  case rest =>
  obtain ⟨n, rfl, rfl⟩ := hcut
  generalize hg : w.heap.size = g at *
  generalize hw : w.alloc (.cells a.cells 67) = w1 at *
  clear hg hw h e255
  have h1 := h0.eq (show _ = FAt TF TQ f s * (FAt TG TR r s * (blk g (.cells a.cells 67 (0, 0)) * R)) by ac_rfl)
  have h2 := h0.eq (show _ = FAt TG TR r s * (FAt TF TQ f s * (blk g (.cells a.cells 67 (0, 0)) * R)) by ac_rfl)
  obtain ⟨rq, hr⟩ := h2.f_open
  have cr := hr.cell
  clear h2
  go_wp2_with fail
  · refine (f_take f s w0 _ _ h1 ok).mono ?_
    rintro e w2 ⟨rfl, h2⟩
    go_wp2_with fail
    refine (g_take r s w0 _ _ (h2.eq (star_left_comm _ _ _)) ok).mono ?_
    rintro e w3 ⟨rfl, h3⟩
    go_wp2
    go_ret
    exact ⟨by simp, _, ok.take, like_take s, two_end h3⟩
  · refine (f_take f s w0 _ _ h1 ok).mono ?_
    rintro e w2 ⟨rfl, h2⟩
    go_wp2_with fail
    refine (g_take r s w0 _ _ (h2.eq (star_left_comm _ _ _)) ok).mono ?_
    rintro e w3 ⟨rfl, h3⟩
    go_wp2
    go_ret
    exact ⟨by simp, _, ok.take, like_take s, two_end h3⟩
  · refine (f_ack f s _ w0 _ _ h1 ok).mono ?_
    rintro e w2 ⟨rfl, h2⟩
    go_wp2_with fail
    refine (g_ack r s _ w0 _ _ (h2.eq (star_left_comm _ _ _)) ok).mono ?_
    rintro e w3 ⟨rfl, h3⟩
    go_wp2
    go_ret
    exact ⟨by simp, _, ok.ack _, like_ack s _, two_end h3⟩
  · refine (f_ack f s _ w0 _ _ h1 ok).mono ?_
    rintro e w2 ⟨rfl, h2⟩
    go_wp2_with fail
    refine (g_ack r s _ w0 _ _ (h2.eq (star_left_comm _ _ _)) ok).mono ?_
    rintro e w3 ⟨rfl, h3⟩
    go_wp2
    go_ret
    exact ⟨by simp, _, ok.ack _, like_ack s _, two_end h3⟩
  · refine (f_ack f s _ w0 _ _ h1 ok).mono ?_
    rintro e w2 ⟨rfl, h2⟩
    go_wp2_with fail
    refine (g_ack r s _ w0 _ _ (h2.eq (star_left_comm _ _ _)) ok).mono ?_
    rintro e w3 ⟨rfl, h3⟩
    go_wp2
    go_ret
    exact ⟨by simp, _, ok.ack _, like_ack s _, two_end h3⟩
  · refine (f_ack f s _ w0 _ _ h1 ok).mono ?_
    rintro e w2 ⟨rfl, h2⟩
    go_wp2_with fail
    refine (g_ack r s _ w0 _ _ (h2.eq (star_left_comm _ _ _)) ok).mono ?_
    rintro e w3 ⟨rfl, h3⟩
    go_wp2
    go_ret
    exact ⟨by simp, _, ok.ack _, like_ack s _, two_end h3⟩
  · refine (f_back f s w0 _ _ h1).mono ?_
    rintro e w2 ⟨rfl, h2⟩
    go_wp2_with fail
    refine (g_back r s w0 _ _ (h2.eq (star_left_comm _ _ _))).mono ?_
    rintro e w3 ⟨rfl, h3⟩
    go_wp2
    go_ret
    exact ⟨by simp, _, ok.back, like_back s, two_end h3⟩
  · refine (f_back f s w0 _ _ h1).mono ?_
    rintro e w2 ⟨rfl, h2⟩
    go_wp2_with fail
    refine (g_back r s w0 _ _ (h2.eq (star_left_comm _ _ _))).mono ?_
    rintro e w3 ⟨rfl, h3⟩
    go_wp2
    go_ret
    exact ⟨by simp, _, ok.back, like_back s, two_end h3⟩
  · refine (f_come f s _ w0 _ _ h1).mono ?_
    rintro e w2 ⟨rfl, h2⟩
    go_wp2_with fail
    refine (g_come r s _ w0 _ _ (h2.eq (star_left_comm _ _ _))).mono ?_
    rintro e w3 ⟨rfl, h3⟩
    go_wp2
    go_ret
    exact ⟨by simp, _, ok.come _, like_come s _, two_end h3⟩
  · refine (f_come f s _ w0 _ _ h1).mono ?_
    rintro e w2 ⟨rfl, h2⟩
    go_wp2_with fail
    refine (g_come r s _ w0 _ _ (h2.eq (star_left_comm _ _ _))).mono ?_
    rintro e w3 ⟨rfl, h3⟩
    go_wp2
    go_ret
    exact ⟨by simp, _, ok.come _, like_come s _, two_end h3⟩
  · refine (f_come f s _ w0 _ _ h1).mono ?_
    rintro e w2 ⟨rfl, h2⟩
    go_wp2_with fail
    refine (g_come r s _ w0 _ _ (h2.eq (star_left_comm _ _ _))).mono ?_
    rintro e w3 ⟨rfl, h3⟩
    go_wp2
    go_ret
    exact ⟨by simp, _, ok.come _, like_come s _, two_end h3⟩
  · refine (f_come f s _ w0 _ _ h1).mono ?_
    rintro e w2 ⟨rfl, h2⟩
    go_wp2_with fail
    refine (g_come r s _ w0 _ _ (h2.eq (star_left_comm _ _ _))).mono ?_
    rintro e w3 ⟨rfl, h3⟩
    go_wp2
    go_ret
    exact ⟨by simp, _, ok.come _, like_come s _, two_end h3⟩
  · refine (f_set_peer f s _ w0 _ _ h1).mono ?_
    rintro e w2 ⟨rfl, h2⟩
    obtain ⟨rq, hr⟩ := (h2.eq (star_left_comm _ _ _)).f_open
    have cr := hr.cell
    have fr := hr.free
    have ca := (h2.eq (star_3 _ _ _ _)).cell
    go_wp2
    go_ret
    exact ⟨rfl, _, ok.peer a.On, ⟨rfl, rfl⟩, two_end (St.f_shut (s := { s with peer := a.On }) (hr.set 3 (.bool a.On)) (by simp [Fl.cells]) rfl)⟩
  · refine (f_set_peer f s _ w0 _ _ h1).mono ?_
    rintro e w2 ⟨rfl, h2⟩
    obtain ⟨rq, hr⟩ := (h2.eq (star_left_comm _ _ _)).f_open
    have cr := hr.cell
    have fr := hr.free
    have ca := (h2.eq (star_3 _ _ _ _)).cell
    go_wp2
    go_ret
    exact ⟨rfl, _, ok.peer a.On, ⟨rfl, rfl⟩, two_end (St.f_shut (s := { s with peer := a.On }) (hr.set 3 (.bool a.On)) (by simp [Fl.cells]) rfl)⟩
  · go_quiet (fail)
    have h3 := h1.drewN
    obtain ⟨rq, hr⟩ := (h1.eq (star_left_comm _ _ _)).f_open
    have cr := hr.cell
    have fr := hr.free
    have ca := (h1.eq (star_3 _ _ _ _)).cell
    go_wp2_with fail
    have h5 := fun n => (St.f_shut (s := { s with own := a.On }) ((hr.drewN n).set 4 (.bool a.On)) (by simp [Fl.cells]) rfl)
    refine (f_set_own f s _ w0 _ _ ((h5 _).eq (star_left_comm _ _ _))).mono ?_
    rintro e w2 ⟨rfl, h2⟩
    go_wp2
    go_ret
    exact ⟨by first | (simp; done) | (simp; rfl), _, ok.own a.On, ⟨rfl, rfl⟩, two_end (h2.eq (star_left_comm _ _ _))⟩
  · go_quiet (fail)
    have h3 := h1.drewN
    obtain ⟨rq, hr⟩ := (h1.eq (star_left_comm _ _ _)).f_open
    have cr := hr.cell
    have fr := hr.free
    have ca := (h1.eq (star_3 _ _ _ _)).cell
    go_wp2_with fail
    have h5 := fun n => (St.f_shut (s := { s with own := a.On }) ((hr.drewN n).set 4 (.bool a.On)) (by simp [Fl.cells]) rfl)
    refine (f_set_own f s _ w0 _ _ ((h5 _).eq (star_left_comm _ _ _))).mono ?_
    rintro e w2 ⟨rfl, h2⟩
    go_wp2
    go_ret
    exact ⟨by first | (simp; done) | (simp; rfl), _, ok.own a.On, ⟨rfl, rfl⟩, two_end (h2.eq (star_left_comm _ _ _))⟩
  · refine (f_reset f s w0 _ _ h1).mono ?_
    rintro e w2 ⟨rfl, h2⟩
    go_wp2_with fail
    refine (g_reset r s w0 _ _ (h2.eq (star_left_comm _ _ _))).mono ?_
    rintro e w3 ⟨rfl, h3⟩
    go_wp2
    go_ret
    exact ⟨by simp, _, ok.reset, like_reset s, two_end h3⟩
  · refine (f_reset f s w0 _ _ h1).mono ?_
    rintro e w2 ⟨rfl, h2⟩
    go_wp2_with fail
    refine (g_reset r s w0 _ _ (h2.eq (star_left_comm _ _ _))).mono ?_
    rintro e w3 ⟨rfl, h3⟩
    go_wp2
    go_ret
    exact ⟨by simp, _, ok.reset, like_reset s, two_end h3⟩
  · refine (f_clear f s w0 _ _ h1 ok).mono ?_
    rintro e w2 ⟨rfl, h2⟩
    go_wp2_with fail
    refine (g_clear r s w0 _ _ (h2.eq (star_left_comm _ _ _)) ok).mono ?_
    rintro e w3 ⟨rfl, h3⟩
    go_wp2
    go_ret
    exact ⟨by simp, _, ok.clear, like_clear s, two_end h3⟩
  · refine (f_clear f s w0 _ _ h1 ok).mono ?_
    rintro e w2 ⟨rfl, h2⟩
    go_wp2_with fail
    refine (g_clear r s w0 _ _ (h2.eq (star_left_comm _ _ _)) ok).mono ?_
    rintro e w3 ⟨rfl, h3⟩
    go_wp2
    go_ret
    exact ⟨by simp, _, ok.clear, like_clear s, two_end h3⟩
  · obtain ⟨rq, hr⟩ := (h1.eq (star_left_comm _ _ _)).f_open
    have k0 : w1.cell? ⟨g, 4, none⟩ = some (.string a.Data) := c0 4
    have k1 : w1.cell? ⟨r, 7, none⟩ = some (ptr rq) := hr.cell 7
    have hf := hr.eq (star_3 _ _ _ _)
    go_region_held3 (fun w' => w'.cell? ⟨g, 4, none⟩ = some (.string a.Data) ∧ w'.cell? ⟨r, 7, none⟩ = some (ptr rq)) (first | (with_reducible exact ⟨k0, k1⟩) | (simp only [World.cell?_drew]; with_reducible exact ⟨k0, k1⟩) | (with_reducible exact ⟨m0, m1⟩) | (with_reducible exact ⟨n0, n1⟩) | go_keep) (first | (go_at_call 32; refine (f_push f s a.Data w0 _ _ hf.drew ok).mono ?_; rintro e w2 ⟨rfl, h2⟩; have m0 := ((h2.eq (star_4 _ _ _ _ _)).cell 4).trans (show _ = some (Value.string a.Data) from rfl); have m1 := ((h2.eq (star_left_comm _ _ _)).cell 7).trans (show _ = some (ptr rq) from rfl)) | (go_at_call 30; refine (r_push rq s.q a.Data w0 _ _ (h2.eq (star_3 _ _ _ _)) ok.q).mono ?_; rintro e w3 ⟨rfl, h3⟩; have n0 := ((h3.eq (star_4 _ _ _ _ _)).cell 4).trans (show _ = some (Value.string a.Data) from rfl); have n1 := ((h3.eq (star_3 _ _ _ _)).cell 7).trans (show _ = some (ptr rq) from rfl)))
    go_wp2
    go_ret
    exact ⟨by simp, _, ok.push a.Data, like_push s a.Data, two_end ((h3.eq (star_3 _ _ _ _)).f_shut (s := { s with q := (s.q.push a.Data).1 }) rfl rfl)⟩
end Go.Proofs.Ytopjbiiddaoklaa
