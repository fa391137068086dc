/- NetworkNil: for every input the law answers true; its arguments read as before; the listed variables are tied to the program text. No condition. -/
import Derived.Test.YtjcldoejpldcmaaGreatDoorQNetworkNil1
import Derived.Test.YtjcldoejpldcmaaGreatDoorC28
import Derived.Test.YtjcldoejpldcmaaGreatDoorJNetworkNil
import Derived.Test.YtjcldoejpldcmaaGreatDoorCards
import Derived.Test.YtjcldoejpldcmaaGreatDoorTie
import Derived.Test.YtjcldoejpldcmaaGreatDoorC27
import Derived.ChangeSame
import Derived.ChangeVars
import Derived.JoinedOf
import Derived.RowKit
import Derived.RowKitTokens
import Derived.LaidLaws
import Derived.Stop.Joined
import Derived.SevenTiedAt
namespace Go.Proofs.YtjcldoejpldcmaaGreatDoor.NetworkNil
open Go.ChangeShapes Go.WideShapes Go.ChangeAt Go.RowKit
open Go.ChangeMaps (open_string shut_string)
set_option linter.unusedVariables false
theorem own : ownKnob Tryz.prog.godebug = none := by kernel_rfl
theorem laidOut : laidOutB Tryz.prog = true := by kernel_rfl
set_option maxRecDepth 100000 in
theorem lifted (os : Os) (started : os.Started) (H : Type) (enc : TypeId × Value → H) :
    ReturnsInHanded {} Tryz.checked os 7 .any (fun w args => (Rows.networkNilSpec.pre enc Tryz.prog Tryz.f7 Rows.networkNilRow.domain false w args ∧ laidMetH Tryz.prog Rows.networkNilRow.laid w) ∧ sizedMet enc Tryz.prog Tryz.f7 (OpenSpec.ofChange Rows.networkNilSpec) false w args) (Rows.networkNilSpec.post enc Tryz.prog Tryz.f7 false true false false) := by
  refine returnsInHanded_of_change_and (C := Tryz.checked) (X := fun w _ => laidMetH Tryz.prog Rows.networkNilRow.laid w) (fun _ _ _ hh h => h.of_heap hh) own started (by kernel_rfl) Tryz.func7
    (ChangeSpec.witness_at (enc := enc) (C := Tryz.checked) (os := os) (X := fun w _ => laidMetH Tryz.prog Rows.networkNilRow.laid w) false (laidWorldK os) #[.agg #[.int .i64 0, .int .i64 0, .int .i64 0, .int .i64 0, .string ⟨#[]⟩, .slice none 0 0, .bool false, .int .i64 0, .int .i64 0, .string ⟨#[]⟩]] 8 rfl (by kernel_rfl) (by kernel_rfl) (by kernel_rfl) (by kernel_rfl) (by kernel_rfl) (laidMetH_of_parts (laidMet_of_run' 8 (by kernel_rfl) (by kernel_rfl)) (by kernel_rfl))) ?_
  intro W base args ds gs before hval0 hW hcnd0 _ hL _
  have hNames : NamesAt W := names_of_laid (show laidMet _ _ W from hL) (by simp [Rows.networkNilRow, Rows.laid_lapwing_ctrl_names, nmB])
  have hLink : LinkAt W := link_of_laid (show laidMet _ _ W from hL) (by simp [Rows.networkNilRow, Rows.laid_lapwing_teimsg_link])
  have hFirst : FirstAt W := first_of_laid (show laidMet _ _ W from hL) (by simp [Rows.networkNilRow, Rows.laid_lapwing_ctrl_first, firstK])
  have hval : ∀ (j : Nat) t v, Tryz.f7.params[j]? = some t → args[j]? = some v → Value.okWide Tryz.prog W .any base t v := hval0
  have hW' := hW
  obtain ⟨p, q, hA0, hV, rfl, hfz, hnd⟩ := hW
  have hA : DataW.TrodAll enc Tryz.prog W 0 (fun _ => true) true Tryz.f7.params.toList args.toList ds p := hA0
  rw [Tryz.params7] at hA hval
  obtain ⟨v0, vs0, d0, ds0, p0, q0, hargs, rfl, rfl, h0, r0⟩ := trodAll_cons hA
  obtain ⟨rfl, rfl, rfl⟩ := trodAll_nil r0
  obtain rfl : args = #[v0] := by cases args; simp_all
  obtain ⟨rfl, rfl⟩ := trodVars_none hV
  obtain ⟨a0, rfl, _⟩ := okWide_struct Tryz.underlying63 (hval 0 63 v0 rfl rfl)
  have lt0 : ∀ x ∈ p0, x.block < W.heap.size := by obtain ⟨m, hm⟩ := h0; exact DataW.trod_lt m _ _ _ hm
  have w0 : Sh.ok W (.pair (.int .i64) (.pair (.int .i64) (.pair (.int .i64) (.pair (.int .i64) (.pair (.string) (.pair (.slice (.pair (.int .i64) (.pair (.int .i64) (.pair (.bool) (.pair (.int .i64) (.pair (.bool) (.pair (.int .i64) (.pair (.int .i64) (.pair (.string) (.unit)))))))))) (.pair (.bool) (.pair (.int .i64) (.pair (.int .i64) (.pair (.string) (.unit))))))))))) _ := Sh.opened (by kernel_rfl) h0
  clear hA0 hval0
  refine (NetworkNil.walk a0 W hNames hFirst hLink w0).mono fun e W' ⟨he, bel⟩ => ?_
  subst he
  exact ⟨_, rfl, _, _, _, [], _, [], hW', trodAll_mk1 (shut_bool Tryz.underlying4 _), (trodAll_cons_mk (Below.trod laidOut (by kernel_rfl) (of_decide_eq_true (by kernel_rfl)) h0 bel lt0) trodAll_mk0), rfl, bel.frame _, fun h => by cases h⟩
theorem over : Rows.networkNilRow.holds Tryz.pinned (OpenSpec.ofChange Rows.networkNilSpec) :=
  OpenClaim.holds_of_wide 7 Tryz.f7 rfl rfl rfl rfl rfl rfl rfl ⟨rfl, rfl, rfl, rfl, rfl⟩ rfl rfl rfl rfl rfl (by kernel_rfl) Tryz.func7 facts
    (of_decide_eq_true (by kernel_rfl)) (by unfold Func.isWrapper; first | (rw [if_pos (by decide +kernel)]; kernel_rfl) | (rw [if_neg (by decide +kernel)]; exact ⟨rfl, rfl⟩))
    (fun os started H enc _ => lifted os started H enc)
theorem proved : Rows.NetworkNilCardSaid :=
  Claim7.holds_tied_plain_at .later [] [.data, .widerDeep, .data, .data, .pinned] true (true, "3707e712bdd0373eae479a4b6953a233c8011c3ab1b107addcbbe75dab654cc9") false
    over (fun _ h => by cases h) p1 (fun _ h => by cases h) networkNil_row_tie rfl ⟨rfl, rfl⟩ p2 rfl
    (fun f fn hf hfn => by
      obtain rfl : f = 7 := Option.some.inj ((show Tryz.prog.funcNamed "lapwing/lapwinglaw18.NetworkNil" = some 7 by kernel_rfl).symm.trans hf) |>.symm
      obtain rfl : fn = Tryz.f7 := (Option.some.inj (Tryz.func7.symm.trans hfn)).symm
      refine ⟨p3, fun j t ht => ?_⟩
      rw [Tryz.params7] at ht
      match j, ht with
      | 0, ht => exact (Option.some.inj ht) ▸ (show Tryz.prog.wantsStandIn 63 = false by kernel_rfl)
      | n + 1, ht => simp at ht)
    p4
#print axioms proved
end Go.Proofs.YtjcldoejpldcmaaGreatDoor.NetworkNil
