/- EntitySends: for every input the law answers true; its arguments read as before; the listed variables are tied to the program text. No condition. -/
import Derived.Test.YtoophfokbioaaaaGreatDoorWEntitySends
import Derived.Test.YtoophfokbioaaaaGreatDoorLaid
import Derived.Test.YtoophfokbioaaaaGreatDoorLaidF
import Derived.Test.YtoophfokbioaaaaGreatDoorCards
import Derived.Test.YtoophfokbioaaaaGreatDoorTie
import Derived.Test.YtoophfokbioaaaaGreatDoorLaw
import Derived.ChangeSame
import Derived.ChangeVars
import Derived.JoinedOf
import Derived.RowKit
import Derived.RowKitTokens
import Derived.LaidLaws
import Derived.Stop.Joined
import Derived.SevenTiedAt
namespace Go.Proofs.YtoophfokbioaaaaGreatDoor.EntitySends
open Go.ChangeShapes Go.WideShapes Go.ChangeAt Go.RowKit
open Go.ChangeMaps (open_string shut_string)
set_option linter.unusedVariables false
theorem own : ownKnob Tryz.prog.godebug = none := by kernel_rfl
theorem laidOut : laidOutB Tryz.prog = true := by kernel_rfl
set_option maxRecDepth 100000 in
theorem lifted (os : Os) (started : os.Started) (H : Type) (enc : TypeId × Value → H) :
    ReturnsInHanded {} Tryz.checked os 9 .any (fun w args => (Rows.entitySendsSpec.pre enc Tryz.prog Tryz.f9 Rows.entitySendsRow.domain false w args ∧ laidMetH Tryz.prog Rows.entitySendsRow.laid w) ∧ sizedMet enc Tryz.prog Tryz.f9 (OpenSpec.ofChange Rows.entitySendsSpec) false w args) (Rows.entitySendsSpec.post enc Tryz.prog Tryz.f9 false true false false) := by
  refine returnsInHanded_of_change_and (C := Tryz.checked) (X := fun w _ => laidMetH Tryz.prog Rows.entitySendsRow.laid w) (fun _ _ _ hh h => h.of_heap hh) own started (by kernel_rfl) Tryz.func9
    (ChangeSpec.witness_at (enc := enc) (C := Tryz.checked) (os := os) (X := fun w _ => laidMetH Tryz.prog Rows.entitySendsRow.laid w) false (laidWorldF os) #[.int .i64 0, .slice none 0 0, .agg #[.int .i64 0, .int .i64 0, .int .i64 0, .int .i64 0, .string ⟨#[]⟩, .int .i64 0, .int .i64 0, .bool false, .int .i64 0, .bool false, .int .i64 0, .int .i64 0, .string ⟨#[]⟩, .bool false, .int .i64 0, .int .i64 0]] 8 rfl (by kernel_rfl) (by kernel_rfl) (by kernel_rfl) (by kernel_rfl) (by kernel_rfl) (laidMetH_of_parts (laidMet_of_run' 8 (by kernel_rfl) (by kernel_rfl)) (by kernel_rfl))) ?_
  intro W base args ds gs before hval0 hW hcnd0 _ hL _
  have hNames : NamesAt W := names_of_laid (show laidMet _ _ W from hL) (by simp [Rows.entitySendsRow, Rows.laid_lapwing_ctrl_names, nmB])
  have hFirst : FirstAt W := first_of_laid (show laidMet _ _ W from hL) (by simp [Rows.entitySendsRow, Rows.laid_lapwing_ctrl_first, firstK])
  have hval : ∀ (j : Nat) t v, Tryz.f9.params[j]? = some t → args[j]? = some v → Value.okWide Tryz.prog W .any base t v := hval0
  have hW' := hW
  obtain ⟨p, q, hA0, hV, rfl, hfz, hnd⟩ := hW
  have hA : DataW.TrodAll enc Tryz.prog W 0 (fun _ => true) true Tryz.f9.params.toList args.toList ds p := hA0
  rw [Tryz.params9] at hA hval
  obtain ⟨v0, vs0, d0, ds0, p0, q0, hargs, rfl, rfl, h0, r0⟩ := trodAll_cons hA
  obtain ⟨v1, vs1, d1, ds1, p1, q1, rfl, rfl, rfl, h1, r1⟩ := trodAll_cons r0
  obtain ⟨v2, vs2, d2, ds2, p2, q2, rfl, rfl, rfl, h2, r2⟩ := trodAll_cons r1
  obtain ⟨rfl, rfl, rfl⟩ := trodAll_nil r2
  obtain rfl : args = #[v0, v1, v2] := by cases args; simp_all
  obtain ⟨rfl, rfl⟩ := trodVars_none hV
  obtain ⟨a0, rfl, rfl, rfl, w0⟩ := open_int Tryz.underlying3 (hval 0 3 v0 rfl rfl) h0
  obtain ⟨a1, len1, cap1, rfl⟩ := okWide_slice Tryz.underlying22 (hval 1 22 v1 rfl rfl)
  have lt1 : ∀ x ∈ p1, x.block < W.heap.size := by obtain ⟨m, hm⟩ := h1; exact DataW.trod_lt m _ _ _ hm
  have w1 : Sh.ok W (.slice (.pair (.int .i64) (.pair (.int .i64) (.pair (.int .i64) (.pair (.int .i64) (.pair (.string) (.pair (.pair (.int .i64) (.pair (.int .i64) (.pair (.bool) (.pair (.int .i64) (.pair (.bool) (.pair (.int .i64) (.pair (.int .i64) (.pair (.string) (.unit))))))))) (.pair (.bool) (.pair (.int .i64) (.pair (.int .i64) (.unit))))))))))) _ := Sh.opened (by kernel_rfl) h1
  obtain ⟨a2, rfl, _⟩ := okWide_struct Tryz.underlying34 (hval 2 34 v2 rfl rfl)
  have lt2 : ∀ x ∈ p2, x.block < W.heap.size := by obtain ⟨m, hm⟩ := h2; exact DataW.trod_lt m _ _ _ hm
  have w2 : Sh.ok W (.pair (.int .i64) (.pair (.int .i64) (.pair (.int .i64) (.pair (.int .i64) (.pair (.string) (.pair (.pair (.int .i64) (.pair (.int .i64) (.pair (.bool) (.pair (.int .i64) (.pair (.bool) (.pair (.int .i64) (.pair (.int .i64) (.pair (.string) (.unit))))))))) (.pair (.bool) (.pair (.int .i64) (.pair (.int .i64) (.unit)))))))))) _ := Sh.opened (by kernel_rfl) h2
  clear hA0 hval0
  refine (EntitySends.walk a0 a1 len1 cap1 a2 W hNames hFirst w0 w1 w2).mono fun e W' ⟨he, bel⟩ => ?_
  subst he
  exact ⟨_, rfl, _, _, _, [], _, [], hW', trodAll_mk1 (shut_bool Tryz.underlying4 _), (trodAll_cons_mk (shut_int Tryz.underlying3 w0) (trodAll_cons_mk (Below.trod laidOut (by kernel_rfl) (of_decide_eq_true (by kernel_rfl)) h1 bel lt1) (trodAll_cons_mk (Below.trod laidOut (by kernel_rfl) (of_decide_eq_true (by kernel_rfl)) h2 bel lt2) trodAll_mk0))), rfl, bel.frame _, fun h => by cases h⟩
theorem over : Rows.entitySendsRow.holds Tryz.pinned (OpenSpec.ofChange Rows.entitySendsSpec) :=
  OpenClaim.holds_of_wide 9 Tryz.f9 rfl rfl rfl rfl rfl rfl rfl ⟨rfl, rfl, rfl, rfl, rfl⟩ rfl rfl rfl rfl rfl (by kernel_rfl) Tryz.func9 (by kernel_rfl)
    (of_decide_eq_true (by kernel_rfl)) (by unfold Func.isWrapper; first | (rw [if_pos (by decide +kernel)]; kernel_rfl) | (rw [if_neg (by decide +kernel)]; exact ⟨rfl, rfl⟩))
    (fun os started H enc _ => lifted os started H enc)
theorem proved : Rows.EntitySendsCardSaid :=
  Claim7.holds_tied_plain_at .later [] [.widerDeep, .data] true (true, "39a64e849c75d00d5120ece337b298a9512a00329f0ef038900fdafdc34b2b22") false
    over (fun _ h => by cases h) (by kernel_rfl) (fun _ h => by cases h) entitySends_row_tie rfl ⟨rfl, rfl⟩ (by kernel_rfl) rfl
    (fun f fn hf hfn => by
      obtain rfl : f = 9 := Option.some.inj ((show Tryz.prog.funcNamed "lapwing/lapwinglaw14.EntitySends" = some 9 by kernel_rfl).symm.trans hf) |>.symm
      obtain rfl : fn = Tryz.f9 := (Option.some.inj (Tryz.func9.symm.trans hfn)).symm
      refine ⟨by kernel_rfl, fun j t ht => ?_⟩
      rw [Tryz.params9] at ht
      match j, ht with
      | 0, ht => exact (Option.some.inj ht) ▸ (show Tryz.prog.wantsStandIn 3 = false by kernel_rfl)
      | 1, ht => exact (Option.some.inj ht) ▸ (show Tryz.prog.wantsStandIn 22 = false by kernel_rfl)
      | 2, ht => exact (Option.some.inj ht) ▸ (show Tryz.prog.wantsStandIn 34 = false by kernel_rfl)
      | n + 3, ht => simp at ht)
    (by kernel_rfl)
#print axioms proved
end Go.Proofs.YtoophfokbioaaaaGreatDoor.EntitySends
