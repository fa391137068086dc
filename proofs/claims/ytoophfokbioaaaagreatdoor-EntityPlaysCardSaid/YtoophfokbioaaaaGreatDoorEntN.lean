/- The entity: again, count. -/
import Derived.Test.YtoophfokbioaaaaGreatDoorEntM
namespace Go.Proofs.YtoophfokbioaaaaGreatDoor
open Go.RowKit

theorem e_again (e : Nat) (x : En) (k : Int) (l : ByteArray) (g : Int) (ok : x.fl.Ok) (ht : 0 ≤ x.tries ∧ x.tries ≤ 1000) (hl : x.out.length ≤ 99980) (w0 w : World) (R : HP) (h : St w0 w (EnAt e x * R)) :
    Calls Tryz.prog 48 #[ptr e, .int .i64 k, .string l, .int .i64 g] w fun r w' => r = .returned (.tuple #[]) ∧ St w0 w' (EnAt e (x.again k l g) * R) := by
  have c0 := h.e_c0
  have c3 := h.e_c3
  have l1 := x.told_len 7 l
  have l2 := (x.told 7 l).told_len g noStr
  unfold En.again
  by_cases hm : x.tries = x.most
  · rw [if_pos hm]
    have b : (x.tries == x.most) = true := by simpa using hm
    have H := Lib.hid h
    go_enter Tryz.func48, Tryz.ntmps48
    clear hm h
    go_wp2
    go_quiet (fail)
    go_wp2_with fail
    refine (e_told e x 7 l (by omega) w0 _ R (H.out.drewN _)).mono ?_
    rintro r w1 ⟨rfl, h3⟩
    go_wp2_with fail
    refine (e_told e (x.told 7 l) g noStr (by omega) w0 _ R h3).mono ?_
    rintro r w2 ⟨rfl, h4⟩
    go_wp2_with fail
    refine (e_end e ((x.told 7 l).told g noStr) ok (by omega) w0 _ R h4).mono ?_
    rintro r w3 ⟨rfl, h5⟩
    clear c0 c3 h3 h4
    go_wp2
    refine bodyPost_ret (v := .tuple #[]) (by simp [results, Tryz.results48, go_sem]) rfl ?_
    exact ⟨rfl, h5⟩
  · rw [if_neg hm]
    have b : (x.tries == x.most) = false := by simpa using hm
    have hw : IntKind.i64.wrap (x.tries + 1) = x.tries + 1 := by rw [IntKind.wrap_i64]; omega
    have H := Lib.hid h
    have l3 : ((x.setTries (x.tries + 1)).send k true true).out.length = x.out.length + 1 := En.send_len (x.setTries (x.tries + 1)) k true true
    have f := h.e_fr
    go_enter Tryz.func48, Tryz.ntmps48
    clear hm h
    go_wp2
    go_quiet (fail)
    go_wp2_with fail
    refine (e_send e (x.setTries (x.tries + 1)) k true true ok (show x.out.length ≤ 100000 by omega) w0 _ R ((H.out.drewN _).e_set_tries (x.tries + 1))).mono ?_
    rintro r w1 ⟨rfl, h3⟩
    clear c0 c3 f
    go_wp2_with fail
    refine (e_start e _ 200 (.inl rfl) (by omega) w0 _ R h3).mono ?_
    rintro r w2 ⟨rfl, h4⟩
    go_wp2
    go_end0
    exact ⟨rfl, h4⟩
end Go.Proofs.YtoophfokbioaaaaGreatDoor
