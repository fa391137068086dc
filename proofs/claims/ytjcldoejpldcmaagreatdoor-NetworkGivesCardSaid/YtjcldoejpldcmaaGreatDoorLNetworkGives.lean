/- NetworkGives: for every input the law answers true; its arguments read as before; the listed variables are tied to the program text. No condition. -/
import Derived.Test.YtjcldoejpldcmaaGreatDoorQNetworkGives1
import Derived.Test.YtjcldoejpldcmaaGreatDoorC28
import Derived.Test.YtjcldoejpldcmaaGreatDoorJNetworkGives
import Derived.Test.YtjcldoejpldcmaaGreatDoorCards
import Derived.Test.YtjcldoejpldcmaaGreatDoorTie
import Derived.Test.YtjcldoejpldcmaaGreatDoorC27
import Derived.ChangeSame
import Derived.ChangeVars
import Derived.JoinedOf
import Derived.RowKit
import Derived.RowKitTokens
import Derived.LaidLaws
import Derived.Stop.Joined
import Derived.SevenTiedAt
namespace Go.Proofs.YtjcldoejpldcmaaGreatDoor.NetworkGives
open Go.ChangeShapes Go.WideShapes Go.ChangeAt Go.RowKit
open Go.ChangeMaps (open_string shut_string)
set_option linter.unusedVariables false
theorem own : ownKnob Tryz.prog.godebug = none := by kernel_rfl
theorem laidOut : laidOutB Tryz.prog = true := by kernel_rfl
set_option maxRecDepth 100000 in
theorem lifted (os : Os) (started : os.Started) (H : Type) (enc : TypeId × Value → H) :
    ReturnsInHanded {} Tryz.checked os 3 .any (fun w args => (Rows.networkGivesSpec.pre enc Tryz.prog Tryz.f3 Rows.networkGivesRow.domain false w args ∧ laidMetH Tryz.prog Rows.networkGivesRow.laid w) ∧ sizedMet enc Tryz.prog Tryz.f3 (OpenSpec.ofChange Rows.networkGivesSpec) false w args) (Rows.networkGivesSpec.post enc Tryz.prog Tryz.f3 false true false false) := by
  refine returnsInHanded_of_change_and (C := Tryz.checked) (X := fun w _ => laidMetH Tryz.prog Rows.networkGivesRow.laid w) (fun _ _ _ hh h => h.of_heap hh) own started (by kernel_rfl) Tryz.func3
    (ChangeSpec.witness_at (enc := enc) (C := Tryz.checked) (os := os) (X := fun w _ => laidMetH Tryz.prog Rows.networkGivesRow.laid w) false (laidWorldK os) #[.agg #[.int .i64 0, .int .i64 0, .int .i64 0, .int .i64 0, .int .i64 0], .slice none 0 0] 8 rfl (by kernel_rfl) (by kernel_rfl) (by kernel_rfl) (by kernel_rfl) (by kernel_rfl) (laidMetH_of_parts (laidMet_of_run' 8 (by kernel_rfl) (by kernel_rfl)) (by kernel_rfl))) ?_
  intro W base args ds gs before hval0 hW hcnd0 _ hL _
  have hNames : NamesAt W := names_of_laid (show laidMet _ _ W from hL) (by simp [Rows.networkGivesRow, Rows.laid_lapwing_ctrl_names, nmB])
  have hLink : LinkAt W := link_of_laid (show laidMet _ _ W from hL) (by simp [Rows.networkGivesRow, Rows.laid_lapwing_teimsg_link])
  have hFirst : FirstAt W := first_of_laid (show laidMet _ _ W from hL) (by simp [Rows.networkGivesRow, Rows.laid_lapwing_ctrl_first, firstK])
  have hval : ∀ (j : Nat) t v, Tryz.f3.params[j]? = some t → args[j]? = some v → Value.okWide Tryz.prog W .any base t v := hval0
  have hW' := hW
  obtain ⟨p, q, hA0, hV, rfl, hfz, hnd⟩ := hW
  have hA : DataW.TrodAll enc Tryz.prog W 0 (fun _ => true) true Tryz.f3.params.toList args.toList ds p := hA0
  rw [Tryz.params3] at hA hval
  obtain ⟨v0, vs0, d0, ds0, p0, q0, hargs, rfl, rfl, h0, r0⟩ := trodAll_cons hA
  obtain ⟨v1, vs1, d1, ds1, p1, q1, rfl, rfl, rfl, h1, r1⟩ := trodAll_cons r0
  obtain ⟨rfl, rfl, rfl⟩ := trodAll_nil r1
  obtain rfl : args = #[v0, v1] := by cases args; simp_all
  obtain ⟨rfl, rfl⟩ := trodVars_none hV
  obtain ⟨a0, rfl, _⟩ := okWide_struct Tryz.underlying23 (hval 0 23 v0 rfl rfl)
  have lt0 : ∀ x ∈ p0, x.block < W.heap.size := by obtain ⟨m, hm⟩ := h0; exact DataW.trod_lt m _ _ _ hm
  have w0 : Sh.ok W (.pair (.int .i64) (.pair (.int .i64) (.pair (.int .i64) (.pair (.int .i64) (.pair (.int .i64) (.unit)))))) _ := Sh.opened (by kernel_rfl) h0
  obtain ⟨a1, len1, cap1, rfl⟩ := okWide_slice Tryz.underlying24 (hval 1 24 v1 rfl rfl)
  have lt1 : ∀ x ∈ p1, x.block < W.heap.size := by obtain ⟨m, hm⟩ := h1; exact DataW.trod_lt m _ _ _ hm
  have w1 : Sh.ok W (.slice (.int .i64)) _ := Sh.opened (by kernel_rfl) h1
  clear hA0 hval0
  refine (NetworkGives.walk a0 a1 len1 cap1 W hNames hFirst hLink w0 w1).mono fun e W' ⟨he, bel⟩ => ?_
  subst he
  exact ⟨_, rfl, _, _, _, [], _, [], hW', trodAll_mk1 (shut_bool Tryz.underlying4 _), (trodAll_cons_mk (Below.trod laidOut (by kernel_rfl) (of_decide_eq_true (by kernel_rfl)) h0 bel lt0) (trodAll_cons_mk (Below.trod laidOut (by kernel_rfl) (of_decide_eq_true (by kernel_rfl)) h1 bel lt1) trodAll_mk0)), rfl, bel.frame _, fun h => by cases h⟩
theorem over : Rows.networkGivesRow.holds Tryz.pinned (OpenSpec.ofChange Rows.networkGivesSpec) :=
  OpenClaim.holds_of_wide 3 Tryz.f3 rfl rfl rfl rfl rfl rfl rfl ⟨rfl, rfl, rfl, rfl, rfl⟩ rfl rfl rfl rfl rfl (by kernel_rfl) Tryz.func3 facts
    (of_decide_eq_true (by kernel_rfl)) (by unfold Func.isWrapper; first | (rw [if_pos (by decide +kernel)]; kernel_rfl) | (rw [if_neg (by decide +kernel)]; exact ⟨rfl, rfl⟩))
    (fun os started H enc _ => lifted os started H enc)
theorem proved : Rows.NetworkGivesCardSaid :=
  Claim7.holds_tied_plain_at .later [] [.data, .widerDeep, .data, .data, .pinned] true (true, "3707e712bdd0373eae479a4b6953a233c8011c3ab1b107addcbbe75dab654cc9") false
    over (fun _ h => by cases h) p1 (fun _ h => by cases h) networkGives_row_tie rfl ⟨rfl, rfl⟩ p2 rfl
    (fun f fn hf hfn => by
      obtain rfl : f = 3 := Option.some.inj ((show Tryz.prog.funcNamed "lapwing/lapwinglaw18.NetworkGives" = some 3 by kernel_rfl).symm.trans hf) |>.symm
      obtain rfl : fn = Tryz.f3 := (Option.some.inj (Tryz.func3.symm.trans hfn)).symm
      refine ⟨p3, fun j t ht => ?_⟩
      rw [Tryz.params3] at ht
      match j, ht with
      | 0, ht => exact (Option.some.inj ht) ▸ (show Tryz.prog.wantsStandIn 23 = false by kernel_rfl)
      | 1, ht => exact (Option.some.inj ht) ▸ (show Tryz.prog.wantsStandIn 24 = false by kernel_rfl)
      | n + 2, ht => simp at ht)
    p4
#print axioms proved
end Go.Proofs.YtjcldoejpldcmaaGreatDoor.NetworkGives
