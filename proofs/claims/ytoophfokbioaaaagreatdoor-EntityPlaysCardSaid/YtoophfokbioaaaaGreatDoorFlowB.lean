/- The flow, further: what is set, what comes, what begins anew. -/
import Derived.Test.YtoophfokbioaaaaGreatDoorFlow
namespace Go.Proofs.YtoophfokbioaaaaGreatDoor
open Go.RowKit
set_option maxRecDepth 100000

def Fl.back (s : Fl) : Fl := { s with vs := s.va, q := (s.q.back 0).1 }

theorem f_back (f : Nat) (s : Fl) (w0 w : World) (R : HP) (h : St w0 w (FAt TF TQ f s * R)) :
    Calls Tryz.prog 125 #[ptr f] w fun e w' => e = .returned (.tuple #[]) ∧ St w0 w' (FAt TF TQ f s.back * R) := by
  obtain ⟨qp, h1⟩ := h.f_open
  have hq := h1.eq (star_left_comm _ _ _)
  obtain ⟨vs, va, vr, peer, own, refused, k, q⟩ := s
  have c := h1.cell
  have f := h1.free
  simp only [] at *
  go_enter Tryz.func125, Tryz.ntmps125
  go_wp2_with fail
  refine (q_back qp q 0 w0 _ _ hq).mono ?_
  rintro e w1 ⟨rfl, h2⟩
  have h3 := h2.eq (star_left_comm _ _ _)
  have c3 := h3.cell
  have f3 := h3.free
  go_wp2
  go_end0
  exact ⟨rfl, (h3.set 0 (.int .i64 va)).f_shut (by simp [Fl.cells, Fl.back]) rfl⟩

theorem g_back (f : Nat) (s : Fl) (w0 w : World) (R : HP) (h : St w0 w (FAt TG TR f s * R)) :
    Calls Tryz.prog 134 #[ptr f] w fun e w' => e = .returned (.tuple #[]) ∧ St w0 w' (FAt TG TR f s.back * R) := by
  obtain ⟨qp, h1⟩ := h.f_open
  have hq := h1.eq (star_left_comm _ _ _)
  obtain ⟨vs, va, vr, peer, own, refused, k, q⟩ := s
  have c := h1.cell
  have f := h1.free
  simp only [] at *
  go_enter Tryz.func134, Tryz.ntmps134
  go_wp2_with fail
  refine (r_back qp q 0 w0 _ _ hq).mono ?_
  rintro e w1 ⟨rfl, h2⟩
  have h3 := h2.eq (star_left_comm _ _ _)
  have c3 := h3.cell
  have f3 := h3.free
  go_wp2
  go_end0
  exact ⟨rfl, (h3.set 0 (.int .i64 va)).f_shut (by simp [Fl.cells, Fl.back]) rfl⟩

def Fl.come (s : Fl) (ns : Int) : Fl × Int :=
  if s.own = true then (s, 3) else if ns % 128 = s.vr then ({ s with vr := ((ns + 1) % 128).toNat, refused := false }, 0) else if s.refused = true then (s, 2) else ({ s with refused := true }, 1)

theorem f_come (f : Nat) (s : Fl) (ns : Int) (w0 w : World) (R : HP) (h : St w0 w (FAt TF TQ f s * R)) :
    Calls Tryz.prog 121 #[ptr f, .int .i64 ns] w fun e w' => e = .returned (.int .i64 (s.come ns).2) ∧ St w0 w' (FAt TF TQ f (s.come ns).1 * R) := by
  obtain ⟨qp, h1⟩ := h.f_open
  obtain ⟨vs, va, vr, peer, own, refused, k, q⟩ := s
  have c := h1.cell
  have f := h1.free
  unfold Fl.come
  simp only [] at *
  have n1 := Int.emod_nonneg (ns + 1) (show (128 : Int) ≠ 0 by decide)
  cases own with
  | true =>
    rw [if_pos rfl]
    go_enter Tryz.func121, Tryz.ntmps121
    go_wp2
    go_ret
    exact ⟨rfl, h⟩
  | false =>
  rw [if_neg (by simp)]
  by_cases b : ns % 128 = vr
  · rw [if_pos b]
    have hb : ((ns % 128) == (vr : Int)) = true := by simpa using b
    have Hb := Lib.hid b
    have e1 : (ns % 128 + 1) % 128 = (ns + 1) % 128 := by omega
    clear b
    go_enter Tryz.func121, Tryz.ntmps121
    go_wp2_with fail
    go_quiet ((go_at_call 139; exact quiet_left (s_norm _ _)))
    go_wp2_with fail
    refine (s_add _ _ _).mono ?_
    rintro e w1 ⟨rfl, rfl⟩
    go_wp2
    go_ret
    refine ⟨rfl, St.f_shut (s := { vs := vs, va := va, vr := ((ns + 1) % 128).toNat, peer := peer, own := false, refused := false, k := k, q := q }) (((h1.drewN _).set 2 (.int .i64 ((ns + 1) % 128))).set 5 (.bool false)) ?_ rfl⟩
    simp [Fl.cells]
    omega
  · rw [if_neg b]
    have hb : ((ns % 128) == (vr : Int)) = false := by simpa using b
    clear b
    cases refused with
    | true =>
      rw [if_pos rfl]
      go_enter Tryz.func121, Tryz.ntmps121
      go_wp2_with fail
      go_quiet ((go_at_call 139; exact quiet_left (s_norm _ _)))
      go_wp2
      go_ret
      exact ⟨rfl, h.drewN _⟩
    | false =>
      rw [if_neg (by simp)]
      go_enter Tryz.func121, Tryz.ntmps121
      go_wp2_with fail
      go_quiet ((go_at_call 139; exact quiet_left (s_norm _ _)))
      go_wp2
      go_ret
      refine ⟨rfl, St.f_shut (s := { vs := vs, va := va, vr := vr, peer := peer, own := false, refused := true, k := k, q := q }) ((h1.drewN _).set 5 (.bool true)) ?_ rfl⟩
      simp [Fl.cells]

theorem g_come (f : Nat) (s : Fl) (ns : Int) (w0 w : World) (R : HP) (h : St w0 w (FAt TG TR f s * R)) :
    Calls Tryz.prog 131 #[ptr f, .int .i64 ns] w fun e w' => e = .returned (.int .i64 (s.come ns).2) ∧ St w0 w' (FAt TG TR f (s.come ns).1 * R) := by
  obtain ⟨qp, h1⟩ := h.f_open
  obtain ⟨vs, va, vr, peer, own, refused, k, q⟩ := s
  have c := h1.cell
  have f := h1.free
  unfold Fl.come
  simp only [] at *
  have n1 := Int.emod_nonneg (ns + 1) (show (128 : Int) ≠ 0 by decide)
  cases own with
  | true =>
    rw [if_pos rfl]
    go_enter Tryz.func131, Tryz.ntmps131
    go_wp2
    go_ret
    exact ⟨rfl, h⟩
  | false =>
  rw [if_neg (by simp)]
  by_cases b : ns % 128 = vr
  · rw [if_pos b]
    have hb : ((ns % 128) == (vr : Int)) = true := by simpa using b
    have Hb := Lib.hid b
    have e1 : (ns % 128 + 1) % 128 = (ns + 1) % 128 := by omega
    clear b
    go_enter Tryz.func131, Tryz.ntmps131
    go_wp2_with fail
    refine (t_norm _ _).mono ?_; rintro e w1 ⟨rfl, rfl⟩
    go_wp2_with fail
    refine (t_add _ _ _).mono ?_
    rintro e w1 ⟨rfl, rfl⟩
    go_wp2
    go_ret
    refine ⟨rfl, St.f_shut (s := { vs := vs, va := va, vr := ((ns + 1) % 128).toNat, peer := peer, own := false, refused := false, k := k, q := q }) (((h1).set 2 (.int .i64 ((ns + 1) % 128))).set 5 (.bool false)) ?_ rfl⟩
    simp [Fl.cells]
    omega
  · rw [if_neg b]
    have hb : ((ns % 128) == (vr : Int)) = false := by simpa using b
    clear b
    cases refused with
    | true =>
      rw [if_pos rfl]
      go_enter Tryz.func131, Tryz.ntmps131
      go_wp2_with fail
      refine (t_norm _ _).mono ?_; rintro e w1 ⟨rfl, rfl⟩
      go_wp2
      go_ret
      exact ⟨rfl, h⟩
    | false =>
      rw [if_neg (by simp)]
      go_enter Tryz.func131, Tryz.ntmps131
      go_wp2_with fail
      refine (t_norm _ _).mono ?_; rintro e w1 ⟨rfl, rfl⟩
      go_wp2
      go_ret
      refine ⟨rfl, St.f_shut (s := { vs := vs, va := va, vr := vr, peer := peer, own := false, refused := true, k := k, q := q }) ((h1).set 5 (.bool true)) ?_ rfl⟩
      simp [Fl.cells]

theorem f_set_peer (f : Nat) (s : Fl) (b : Bool) (w0 w : World) (R : HP) (h : St w0 w (FAt TF TQ f s * R)) :
    Calls Tryz.prog 124 #[ptr f, .bool b] w fun e w' => e = .returned (.tuple #[]) ∧ St w0 w' (FAt TF TQ f { s with peer := b } * R) := by
  obtain ⟨qp, h1⟩ := h.f_open
  obtain ⟨vs, va, vr, peer, own, refused, k, q⟩ := s
  have c := h1.cell
  have f := h1.free
  go_enter Tryz.func124, Tryz.ntmps124
  go_wp2
  go_end0
  exact ⟨rfl, (h1.set 3 (.bool b)).f_shut (by simp [Fl.cells]) rfl⟩

theorem f_set_own (f : Nat) (s : Fl) (b : Bool) (w0 w : World) (R : HP) (h : St w0 w (FAt TF TQ f s * R)) :
    Calls Tryz.prog 90 #[ptr f, .bool b] w fun e w' => e = .returned (.bool (s.own != b)) ∧ St w0 w' (FAt TF TQ f { s with own := b } * R) := by
  obtain ⟨qp, h1⟩ := h.f_open
  obtain ⟨vs, va, vr, peer, own, refused, k, q⟩ := s
  have c := h1.cell
  have f := h1.free
  cases own <;> cases b
  all_goals
    go_enter Tryz.func90, Tryz.ntmps90
    go_wp2
    go_ret
    refine ⟨rfl, ?_⟩
    first | exact h | exact (h1.set 4 (.bool true)).f_shut (by simp [Fl.cells]) rfl | exact (h1.set 4 (.bool false)).f_shut (by simp [Fl.cells]) rfl

def Fl.reset (s : Fl) : Fl := { s with vs := 0, va := 0, vr := 0, peer := false, own := false, refused := false, q := (s.q.back 0).1 }

theorem f_reset (f : Nat) (s : Fl) (w0 w : World) (R : HP) (h : St w0 w (FAt TF TQ f s * R)) :
    Calls Tryz.prog 120 #[ptr f] w fun e w' => e = .returned (.tuple #[]) ∧ St w0 w' (FAt TF TQ f s.reset * R) := by
  obtain ⟨qp, h1⟩ := h.f_open
  have hq := h1.eq (star_left_comm _ _ _)
  obtain ⟨vs, va, vr, peer, own, refused, k, q⟩ := s
  have c := h1.cell
  have f := h1.free
  simp only [] at *
  go_enter Tryz.func120, Tryz.ntmps120
  go_wp2_with fail
  refine (q_back qp q 0 w0 _ _ hq).mono ?_
  rintro e w1 ⟨rfl, h2⟩
  have h3 := h2.eq (star_left_comm _ _ _)
  have c3 := h3.cell
  have f3 := h3.free
  go_wp2
  go_end0
  refine ⟨rfl, ?_⟩
  have h4 := (((((h3.set 0 (.int .i64 0)).set 1 (.int .i64 0)).set 2 (.int .i64 0)).set 3 (.bool false)).set 4 (.bool false)).set 5 (.bool false)
  exact h4.f_shut (by simp [Fl.cells, Fl.reset]) rfl

theorem g_reset (f : Nat) (s : Fl) (w0 w : World) (R : HP) (h : St w0 w (FAt TG TR f s * R)) :
    Calls Tryz.prog 130 #[ptr f] w fun e w' => e = .returned (.tuple #[]) ∧ St w0 w' (FAt TG TR f s.reset * R) := by
  obtain ⟨qp, h1⟩ := h.f_open
  have hq := h1.eq (star_left_comm _ _ _)
  obtain ⟨vs, va, vr, peer, own, refused, k, q⟩ := s
  have c := h1.cell
  have f := h1.free
  simp only [] at *
  go_enter Tryz.func130, Tryz.ntmps130
  go_wp2_with fail
  refine (r_back qp q 0 w0 _ _ hq).mono ?_
  rintro e w1 ⟨rfl, h2⟩
  have h3 := h2.eq (star_left_comm _ _ _)
  have c3 := h3.cell
  have f3 := h3.free
  go_wp2
  go_end0
  refine ⟨rfl, ?_⟩
  have h4 := (((((h3.set 0 (.int .i64 0)).set 1 (.int .i64 0)).set 2 (.int .i64 0)).set 3 (.bool false)).set 4 (.bool false)).set 5 (.bool false)
  exact h4.f_shut (by simp [Fl.cells, Fl.reset]) rfl

def Fl.clear (s : Fl) : Fl := { s with vs := s.va, q := ⟨s.q.most, [], 0⟩ }

theorem f_clear (f : Nat) (s : Fl) (w0 w : World) (R : HP) (h : St w0 w (FAt TF TQ f s * R)) (ok : s.Ok) :
    Calls Tryz.prog 82 #[ptr f] w fun e w' => e = .returned (.int .i64 s.q.l.length) ∧ St w0 w' (FAt TF TQ f s.clear * R) := by
  obtain ⟨qp, h1⟩ := h.f_open
  obtain ⟨vs, va, vr, peer, own, refused, k, q⟩ := s
  have c := h1.cell
  have f := h1.free
  have h2 := h1.set 0 (.int .i64 va)
  have c2 := h2.cell
  have okq := ok.q
  simp only [] at *
  go_enter Tryz.func82, Tryz.ntmps82
  go_wp2_with fail
  refine (q_clear qp q w0 _ _ (h2.eq (star_left_comm _ _ _)) okq).mono ?_
  rintro e w1 ⟨rfl, h3⟩
  go_wp2
  go_ret
  exact ⟨rfl, (h3.eq (star_left_comm _ _ _)).f_shut (by simp [Fl.cells, Fl.clear]) rfl⟩

theorem g_clear (f : Nat) (s : Fl) (w0 w : World) (R : HP) (h : St w0 w (FAt TG TR f s * R)) (ok : s.Ok) :
    Calls Tryz.prog 104 #[ptr f] w fun e w' => e = .returned (.int .i64 s.q.l.length) ∧ St w0 w' (FAt TG TR f s.clear * R) := by
  obtain ⟨qp, h1⟩ := h.f_open
  obtain ⟨vs, va, vr, peer, own, refused, k, q⟩ := s
  have c := h1.cell
  have f := h1.free
  have h2 := h1.set 0 (.int .i64 va)
  have c2 := h2.cell
  have okq := ok.q
  simp only [] at *
  go_enter Tryz.func104, Tryz.ntmps104
  go_wp2_with fail
  refine (r_clear qp q w0 _ _ (h2.eq (star_left_comm _ _ _)) okq).mono ?_
  rintro e w1 ⟨rfl, h3⟩
  go_wp2
  go_ret
  exact ⟨rfl, (h3.eq (star_left_comm _ _ _)).f_shut (by simp [Fl.cells, Fl.clear]) rfl⟩

end Go.Proofs.YtoophfokbioaaaaGreatDoor
