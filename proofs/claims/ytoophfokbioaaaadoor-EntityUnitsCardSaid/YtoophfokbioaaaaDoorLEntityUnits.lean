/- EntityUnits: for every input the law answers true; its arguments read as before; the listed variables are tied to the program text. No condition. -/
import Derived.Test.YtoophfokbioaaaaDoorWEntityUnits
import Derived.Test.YtoophfokbioaaaaDoorLaid
import Derived.Test.YtoophfokbioaaaaDoorCards
import Derived.Test.YtoophfokbioaaaaDoorTie
import Derived.Test.YtoophfokbioaaaaDoorLaw
import Derived.ChangeSame
import Derived.ChangeVars
import Derived.JoinedOf
import Derived.RowKit
import Derived.RowKitTokens
import Derived.LaidLaws
import Derived.Stop.Joined
import Derived.SevenTiedAt
namespace Go.Proofs.YtoophfokbioaaaaDoor.EntityUnits
open Go.ChangeShapes Go.WideShapes Go.ChangeAt Go.RowKit
open Go.ChangeMaps (open_string shut_string)
set_option linter.unusedVariables false
theorem own : ownKnob Tryd.prog.godebug = none := by kernel_rfl
theorem laidOut : laidOutB Tryd.prog = true := by kernel_rfl
set_option maxRecDepth 100000 in
theorem lifted (os : Os) (started : os.Started) (H : Type) (enc : TypeId × Value → H) :
    ReturnsInHanded {} Tryd.checked os 3 .any (fun w args => (Rows.entityUnitsSpec.pre enc Tryd.prog Tryd.f3 Rows.entityUnitsRow.domain false w args ∧ laidMetH Tryd.prog Rows.entityUnitsRow.laid w) ∧ sizedMet enc Tryd.prog Tryd.f3 (OpenSpec.ofChange Rows.entityUnitsSpec) false w args) (Rows.entityUnitsSpec.post enc Tryd.prog Tryd.f3 false true false false) := by
  refine returnsInHanded_of_change_and (C := Tryd.checked) (X := fun w _ => laidMetH Tryd.prog Rows.entityUnitsRow.laid w) (fun _ _ _ hh h => h.of_heap hh) own started (by kernel_rfl) Tryd.func3
    (ChangeSpec.witness_at (enc := enc) (C := Tryd.checked) (os := os) (X := fun w _ => laidMetH Tryd.prog Rows.entityUnitsRow.laid w) false (laidWorld os) #[.slice none 0 0, .int .i64 0, .bool false] 8 rfl (by kernel_rfl) (by kernel_rfl) (by kernel_rfl) (by kernel_rfl) (by kernel_rfl) (laidMetH_of_parts (laidMet_of_run' 8 (by kernel_rfl) (by kernel_rfl)) (by kernel_rfl))) ?_
  intro W base args ds gs before hval0 hW hcnd0 _ hL _
  have hNames : NamesAt W := names_of_laid (show laidMet _ _ W from hL) (by simp [Rows.entityUnitsRow, Rows.laid_lapwing_ctrl_names, nmB])
  have hval : ∀ (j : Nat) t v, Tryd.f3.params[j]? = some t → args[j]? = some v → Value.okWide Tryd.prog W .any base t v := hval0
  have hW' := hW
  obtain ⟨p, q, hA0, hV, rfl, hfz, hnd⟩ := hW
  have hA : DataW.TrodAll enc Tryd.prog W 0 (fun _ => true) true Tryd.f3.params.toList args.toList ds p := hA0
  rw [Tryd.params3] at hA hval
  obtain ⟨v0, vs0, d0, ds0, p0, q0, hargs, rfl, rfl, h0, r0⟩ := trodAll_cons hA
  obtain ⟨v1, vs1, d1, ds1, p1, q1, rfl, rfl, rfl, h1, r1⟩ := trodAll_cons r0
  obtain ⟨v2, vs2, d2, ds2, p2, q2, rfl, rfl, rfl, h2, r2⟩ := trodAll_cons r1
  obtain ⟨rfl, rfl, rfl⟩ := trodAll_nil r2
  obtain rfl : args = #[v0, v1, v2] := by cases args; simp_all
  obtain ⟨rfl, rfl⟩ := trodVars_none hV
  obtain ⟨a0, len0, cap0, rfl⟩ := okWide_slice Tryd.underlying22 (hval 0 22 v0 rfl rfl)
  have lt0 : ∀ x ∈ p0, x.block < W.heap.size := by obtain ⟨m, hm⟩ := h0; exact DataW.trod_lt m _ _ _ hm
  have w0 : Sh.ok W (.slice (.string)) _ := Sh.opened (by kernel_rfl) h0
  obtain ⟨a1, rfl, rfl, rfl, w1⟩ := open_int Tryd.underlying3 (hval 1 3 v1 rfl rfl) h1
  obtain ⟨a2, rfl, rfl, rfl⟩ := open_bool Tryd.underlying4 (hval 2 4 v2 rfl rfl) h2
  clear hA0 hval0
  refine (EntityUnits.walk a0 len0 cap0 a1 a2 W hNames w0 w1).mono fun e W' ⟨he, bel⟩ => ?_
  subst he
  exact ⟨_, rfl, _, _, _, [], _, [], hW', trodAll_mk1 (shut_bool Tryd.underlying4 _), (trodAll_cons_mk (Below.trod laidOut (by kernel_rfl) (of_decide_eq_true (by kernel_rfl)) h0 bel lt0) (trodAll_cons_mk (shut_int Tryd.underlying3 w1) (trodAll_cons_mk (shut_bool Tryd.underlying4 a2) trodAll_mk0))), rfl, bel.frame _, fun h => by cases h⟩
theorem over : Rows.entityUnitsRow.holds Tryd.pinned (OpenSpec.ofChange Rows.entityUnitsSpec) :=
  OpenClaim.holds_of_wide 3 Tryd.f3 rfl rfl rfl rfl rfl rfl rfl ⟨rfl, rfl, rfl, rfl, rfl⟩ rfl rfl rfl rfl rfl (by kernel_rfl) Tryd.func3 (by kernel_rfl)
    (of_decide_eq_true (by kernel_rfl)) (by unfold Func.isWrapper; first | (rw [if_pos (by decide +kernel)]; kernel_rfl) | (rw [if_neg (by decide +kernel)]; exact ⟨rfl, rfl⟩))
    (fun os started H enc _ => lifted os started H enc)
theorem proved : Rows.EntityUnitsCardSaid :=
  Claim7.holds_tied_plain_at .later [] [.data] true (true, "6714012758024d5991e3576a4b34a4a911f20a1cea3f0d3e26704599e98c7e4a") false
    over (fun _ h => by cases h) (by kernel_rfl) (fun _ h => by cases h) entityUnits_row_tie rfl ⟨rfl, rfl⟩ (by kernel_rfl) rfl
    (fun f fn hf hfn => by
      obtain rfl : f = 3 := Option.some.inj ((show Tryd.prog.funcNamed "lapwing/lapwinglaw14.EntityUnits" = some 3 by kernel_rfl).symm.trans hf) |>.symm
      obtain rfl : fn = Tryd.f3 := (Option.some.inj (Tryd.func3.symm.trans hfn)).symm
      refine ⟨by kernel_rfl, fun j t ht => ?_⟩
      rw [Tryd.params3] at ht
      match j, ht with
      | 0, ht => exact (Option.some.inj ht) ▸ (show Tryd.prog.wantsStandIn 22 = false by kernel_rfl)
      | 1, ht => exact (Option.some.inj ht) ▸ (show Tryd.prog.wantsStandIn 3 = false by kernel_rfl)
      | 2, ht => exact (Option.some.inj ht) ▸ (show Tryd.prog.wantsStandIn 4 = false by kernel_rfl)
      | n + 3, ht => simp at ht)
    (by kernel_rfl)
#print axioms proved
end Go.Proofs.YtoophfokbioaaaaDoor.EntityUnits
