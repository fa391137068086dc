/-
  NARROWER THAN 'FOR EVERY INPUT', by the rows' own cells (each row's printed sentence says how): EntityPlays: laid · EntityTells: laid · EntityGives: laid · EntityTwice: laid · EntityDeaf: laid · EntityGone: laid · EntitySends: laid.
  DERIVED. THE GIVEN ROWS OF THIS SEAT. 7 by the template 'for every input the law returns true; each argument reads behind the call as it read before'; 0 by the template 'total and deterministic' (their statements: YtoophfokbioaaaaGreatDoorTotals.lean).
  GIVEN WITH THE SEED: the statements are not yours to turn. If you find one false, say at which input.
  Laid BY PROGRAM, IN A SANDBOX (cutbox-rows.mjs): the forced cells as the released guide's own fill.sh prints them over the translation c92be54e9ec812a8… (all of the seat's roots in one cut). By AI agents, Wed Nov 11 2026. No macro, syntax, notation, axiom, sorry.
-/
import Derived.Test.YtoophfokbioaaaaGreatDoorChecked
import GoSem.Claim
import GoSem.ClaimJoined
import GoSem.ClaimMapViews
import Derived.JoinedTies
import Derived.KernelRfl
namespace Go.Proofs.YtoophfokbioaaaaGreatDoor
/- THE CELL 'sum', in the pinned program and in every row, IS THE sha256 OF THE DUMP (.gsa) THAT YtoophfokbioaaaaGreatDoorProg.lean LOADS. Nothing in Lean hashes anything: it is a label: what it is worth is what the hold of that sum in a sandbox is worth. -/
noncomputable def Tryz.pinned : Pinned := { name := "ytoophfokbioaaaagreatdoor", sum := "c92be54e9ec812a8e86ce662c0868f0f34ea513c70d22e4a96b669a0d6d64462", checked := Tryz.checked }
namespace Rows
def none {H : Type} : Left H := { results := [], args := [] }

/- WHAT THE LISTED PACKAGE-LEVEL VARIABLES READ AS WHEN THE CALL BEGINS. Each datum BY PROGRAM (the guide's laid-datum.mjs) off the statement by which the dump's own 'gosem.cut.vars' lays the variable. In a bare row this is a premise. The card (YtoophfokbioaaaaGreatDoorCards.lean) ties it to the program's text. -/
def laid_lapwing_ctrl_names {H : Type} : DataW H := .agg [.lit (.string [73]), .lit (.string [82, 82]), .lit (.string [82, 78, 82]), .lit (.string [82, 69, 74]), .lit (.string [83, 65, 66, 77, 69]), .lit (.string [68, 77]), .lit (.string [85, 73]), .lit (.string [68, 73, 83, 67]), .lit (.string [85, 65]), .lit (.string [70, 82, 77, 82])]
def laid_lapwing_ctrl_first {H : Type} : DataW H := .agg [.lit (.int .u8 0), .lit (.int .u8 1), .lit (.int .u8 5), .lit (.int .u8 9), .lit (.int .u8 111), .lit (.int .u8 15), .lit (.int .u8 3), .lit (.int .u8 67), .lit (.int .u8 99), .lit (.int .u8 135)]

/-- 'lapwinglaw14.EntityPlays': WHATEVER THE INPUT: true; the input reads as it did. -/
def entityPlaysSpec : ChangeSpec := { name := "entityPlays", fn := fun _ => fun
  | [d1, d2, d3] => { results := [.lit (.bool true)], args := [d1, d2, d3] }
  | _ => none }
def entityPlaysRow : OpenClaim := { program := "ytoophfokbioaaaagreatdoor", sum := "c92be54e9ec812a8e86ce662c0868f0f34ea513c70d22e4a96b669a0d6d64462", func := "lapwing/lapwinglaw14.EntityPlays", spec := "entityPlays", named := ["lapwing/ctrl.names"], apart := false, laid := [("lapwing/ctrl.names", laid_lapwing_ctrl_names)] }
def EntityPlaysSaid : Prop := entityPlaysRow.holds Tryz.pinned (OpenSpec.ofChange entityPlaysSpec)

/-- ITS FALSE NEIGHBOUR: 'it returns false'. Refute it at one input. -/
def entityPlaysWrong : ChangeSpec := { name := "entityPlays", fn := fun _ => fun
  | [d1, d2, d3] => { results := [.lit (.bool false)], args := [d1, d2, d3] }
  | _ => none }
def EntityPlaysWrongFalsely : Prop := entityPlaysRow.holds Tryz.pinned (OpenSpec.ofChange entityPlaysWrong)

/-- 'lapwinglaw14.EntityTells': WHATEVER THE INPUT: true; the input reads as it did. -/
def entityTellsSpec : ChangeSpec := { name := "entityTells", fn := fun _ => fun
  | [d1, d2, d3] => { results := [.lit (.bool true)], args := [d1, d2, d3] }
  | _ => none }
def entityTellsRow : OpenClaim := { program := "ytoophfokbioaaaagreatdoor", sum := "c92be54e9ec812a8e86ce662c0868f0f34ea513c70d22e4a96b669a0d6d64462", func := "lapwing/lapwinglaw14.EntityTells", spec := "entityTells", named := ["lapwing/ctrl.names"], apart := false, laid := [("lapwing/ctrl.names", laid_lapwing_ctrl_names)] }
def EntityTellsSaid : Prop := entityTellsRow.holds Tryz.pinned (OpenSpec.ofChange entityTellsSpec)

/-- ITS FALSE NEIGHBOUR: 'it returns false'. Refute it at one input. -/
def entityTellsWrong : ChangeSpec := { name := "entityTells", fn := fun _ => fun
  | [d1, d2, d3] => { results := [.lit (.bool false)], args := [d1, d2, d3] }
  | _ => none }
def EntityTellsWrongFalsely : Prop := entityTellsRow.holds Tryz.pinned (OpenSpec.ofChange entityTellsWrong)

/-- 'lapwinglaw14.EntityGives': WHATEVER THE INPUT: true; the input reads as it did. -/
def entityGivesSpec : ChangeSpec := { name := "entityGives", fn := fun _ => fun
  | [d1, d2, d3] => { results := [.lit (.bool true)], args := [d1, d2, d3] }
  | _ => none }
def entityGivesRow : OpenClaim := { program := "ytoophfokbioaaaagreatdoor", sum := "c92be54e9ec812a8e86ce662c0868f0f34ea513c70d22e4a96b669a0d6d64462", func := "lapwing/lapwinglaw14.EntityGives", spec := "entityGives", named := ["lapwing/ctrl.names"], apart := false, laid := [("lapwing/ctrl.names", laid_lapwing_ctrl_names)] }
def EntityGivesSaid : Prop := entityGivesRow.holds Tryz.pinned (OpenSpec.ofChange entityGivesSpec)

/-- ITS FALSE NEIGHBOUR: 'it returns false'. Refute it at one input. -/
def entityGivesWrong : ChangeSpec := { name := "entityGives", fn := fun _ => fun
  | [d1, d2, d3] => { results := [.lit (.bool false)], args := [d1, d2, d3] }
  | _ => none }
def EntityGivesWrongFalsely : Prop := entityGivesRow.holds Tryz.pinned (OpenSpec.ofChange entityGivesWrong)

/-- 'lapwinglaw14.EntityTwice': WHATEVER THE INPUT: true; the input reads as it did. -/
def entityTwiceSpec : ChangeSpec := { name := "entityTwice", fn := fun _ => fun
  | [d1, d2, d3] => { results := [.lit (.bool true)], args := [d1, d2, d3] }
  | _ => none }
def entityTwiceRow : OpenClaim := { program := "ytoophfokbioaaaagreatdoor", sum := "c92be54e9ec812a8e86ce662c0868f0f34ea513c70d22e4a96b669a0d6d64462", func := "lapwing/lapwinglaw14.EntityTwice", spec := "entityTwice", named := ["lapwing/ctrl.names"], apart := false, laid := [("lapwing/ctrl.names", laid_lapwing_ctrl_names)] }
def EntityTwiceSaid : Prop := entityTwiceRow.holds Tryz.pinned (OpenSpec.ofChange entityTwiceSpec)

/-- ITS FALSE NEIGHBOUR: 'it returns false'. Refute it at one input. -/
def entityTwiceWrong : ChangeSpec := { name := "entityTwice", fn := fun _ => fun
  | [d1, d2, d3] => { results := [.lit (.bool false)], args := [d1, d2, d3] }
  | _ => none }
def EntityTwiceWrongFalsely : Prop := entityTwiceRow.holds Tryz.pinned (OpenSpec.ofChange entityTwiceWrong)

/-- 'lapwinglaw14.EntityDeaf': WHATEVER THE INPUT: true; the input reads as it did. -/
def entityDeafSpec : ChangeSpec := { name := "entityDeaf", fn := fun _ => fun
  | [d1, d2, d3] => { results := [.lit (.bool true)], args := [d1, d2, d3] }
  | _ => none }
def entityDeafRow : OpenClaim := { program := "ytoophfokbioaaaagreatdoor", sum := "c92be54e9ec812a8e86ce662c0868f0f34ea513c70d22e4a96b669a0d6d64462", func := "lapwing/lapwinglaw14.EntityDeaf", spec := "entityDeaf", named := ["lapwing/ctrl.names"], apart := false, laid := [("lapwing/ctrl.names", laid_lapwing_ctrl_names)] }
def EntityDeafSaid : Prop := entityDeafRow.holds Tryz.pinned (OpenSpec.ofChange entityDeafSpec)

/-- ITS FALSE NEIGHBOUR: 'it returns false'. Refute it at one input. -/
def entityDeafWrong : ChangeSpec := { name := "entityDeaf", fn := fun _ => fun
  | [d1, d2, d3] => { results := [.lit (.bool false)], args := [d1, d2, d3] }
  | _ => none }
def EntityDeafWrongFalsely : Prop := entityDeafRow.holds Tryz.pinned (OpenSpec.ofChange entityDeafWrong)

/-- 'lapwinglaw14.EntityGone': WHATEVER THE INPUT: true; the input reads as it did. -/
def entityGoneSpec : ChangeSpec := { name := "entityGone", fn := fun _ => fun
  | [d1, d2] => { results := [.lit (.bool true)], args := [d1, d2] }
  | _ => none }
def entityGoneRow : OpenClaim := { program := "ytoophfokbioaaaagreatdoor", sum := "c92be54e9ec812a8e86ce662c0868f0f34ea513c70d22e4a96b669a0d6d64462", func := "lapwing/lapwinglaw14.EntityGone", spec := "entityGone", named := ["lapwing/ctrl.names"], apart := false, laid := [("lapwing/ctrl.names", laid_lapwing_ctrl_names)] }
def EntityGoneSaid : Prop := entityGoneRow.holds Tryz.pinned (OpenSpec.ofChange entityGoneSpec)

/-- ITS FALSE NEIGHBOUR: 'it returns false'. Refute it at one input. -/
def entityGoneWrong : ChangeSpec := { name := "entityGone", fn := fun _ => fun
  | [d1, d2] => { results := [.lit (.bool false)], args := [d1, d2] }
  | _ => none }
def EntityGoneWrongFalsely : Prop := entityGoneRow.holds Tryz.pinned (OpenSpec.ofChange entityGoneWrong)

/-- 'lapwinglaw14.EntitySends': WHATEVER THE INPUT: true; the input reads as it did. -/
def entitySendsSpec : ChangeSpec := { name := "entitySends", fn := fun _ => fun
  | [d1, d2, d3] => { results := [.lit (.bool true)], args := [d1, d2, d3] }
  | _ => none }
def entitySendsRow : OpenClaim := { program := "ytoophfokbioaaaagreatdoor", sum := "c92be54e9ec812a8e86ce662c0868f0f34ea513c70d22e4a96b669a0d6d64462", func := "lapwing/lapwinglaw14.EntitySends", spec := "entitySends", named := ["lapwing/ctrl.names", "lapwing/ctrl.first"], apart := false, laid := [("lapwing/ctrl.first", laid_lapwing_ctrl_first), ("lapwing/ctrl.names", laid_lapwing_ctrl_names)] }
def EntitySendsSaid : Prop := entitySendsRow.holds Tryz.pinned (OpenSpec.ofChange entitySendsSpec)

/-- ITS FALSE NEIGHBOUR: 'it returns false'. Refute it at one input. -/
def entitySendsWrong : ChangeSpec := { name := "entitySends", fn := fun _ => fun
  | [d1, d2, d3] => { results := [.lit (.bool false)], args := [d1, d2, d3] }
  | _ => none }
def EntitySendsWrongFalsely : Prop := entitySendsRow.holds Tryz.pinned (OpenSpec.ofChange entitySendsWrong)

/- THE SECOND FORM. 'bulk': how many values and letters a reading holds, each counted each time it is reached (what is shared counts as often as it is met; a slice's spare places count too). A statement '..UptoSaid' is the law's where the arguments, and the package variables that the reading takes, are together of bulk at most 1048576: NARROWER than '..Said'. Prove '..Said' where nothing that the law and all that it calls make is longer than what came in: it says more and counts as full. Else prove '..UptoSaid'. A law counts once. -/
mutual
def uptoBulk {H : Type} : DataW H → Nat
  | .lit (.string bytes) => bytes.length + 1
  | .lit _ => 1
  | .nil => 1
  | .ptr d => uptoBulk d + 1
  | .slice elems spare => uptoBulkAll elems + uptoBulkAll spare + 1
  | .agg parts => uptoBulkAll parts + 1
  | .iface _ d => uptoBulk d + 1
  | .map entries => uptoBulkEntries entries + 1
  | .held _ => 1
def uptoBulkAll {H : Type} : List (DataW H) → Nat
  | [] => 0
  | d :: r => uptoBulk d + uptoBulkAll r
def uptoBulkEntries {H : Type} : List (Lit × DataW H) → Nat
  | [] => 0
  | x :: r => uptoBulkEntry x + uptoBulkEntries r
def uptoBulkEntry {H : Type} : Lit × DataW H → Nat
  | (.string bytes, d) => bytes.length + uptoBulk d + 1
  | (_, d) => uptoBulk d + 1
 end
def uptoSmall : (H : Type) → List (DataW H) → Bool := fun _ ds => decide (uptoBulkAll ds ≤ 1048576)
def OpenSpec.upto (s : _root_.Go.ChangeSpec) : _root_.Go.OpenSpec := { _root_.Go.OpenSpec.ofChange s with cond := some uptoSmall }

/-- 'lapwinglaw14.EntityPlays', WHERE WHAT IT READS IS OF BULK AT MOST 1048576: true; the input reads as it did. -/
def entityPlaysUptoRow : OpenClaim := { program := "ytoophfokbioaaaagreatdoor", sum := "c92be54e9ec812a8e86ce662c0868f0f34ea513c70d22e4a96b669a0d6d64462", func := "lapwing/lapwinglaw14.EntityPlays", spec := "entityPlays", named := ["lapwing/ctrl.names"], apart := false, laid := [("lapwing/ctrl.names", laid_lapwing_ctrl_names)], narrowed := true }
def EntityPlaysUptoSaid : Prop := entityPlaysUptoRow.holds Tryz.pinned (OpenSpec.upto entityPlaysSpec)

/-- 'lapwinglaw14.EntityTells', WHERE WHAT IT READS IS OF BULK AT MOST 1048576: true; the input reads as it did. -/
def entityTellsUptoRow : OpenClaim := { program := "ytoophfokbioaaaagreatdoor", sum := "c92be54e9ec812a8e86ce662c0868f0f34ea513c70d22e4a96b669a0d6d64462", func := "lapwing/lapwinglaw14.EntityTells", spec := "entityTells", named := ["lapwing/ctrl.names"], apart := false, laid := [("lapwing/ctrl.names", laid_lapwing_ctrl_names)], narrowed := true }
def EntityTellsUptoSaid : Prop := entityTellsUptoRow.holds Tryz.pinned (OpenSpec.upto entityTellsSpec)

/-- 'lapwinglaw14.EntityGives', WHERE WHAT IT READS IS OF BULK AT MOST 1048576: true; the input reads as it did. -/
def entityGivesUptoRow : OpenClaim := { program := "ytoophfokbioaaaagreatdoor", sum := "c92be54e9ec812a8e86ce662c0868f0f34ea513c70d22e4a96b669a0d6d64462", func := "lapwing/lapwinglaw14.EntityGives", spec := "entityGives", named := ["lapwing/ctrl.names"], apart := false, laid := [("lapwing/ctrl.names", laid_lapwing_ctrl_names)], narrowed := true }
def EntityGivesUptoSaid : Prop := entityGivesUptoRow.holds Tryz.pinned (OpenSpec.upto entityGivesSpec)

/-- 'lapwinglaw14.EntityTwice', WHERE WHAT IT READS IS OF BULK AT MOST 1048576: true; the input reads as it did. -/
def entityTwiceUptoRow : OpenClaim := { program := "ytoophfokbioaaaagreatdoor", sum := "c92be54e9ec812a8e86ce662c0868f0f34ea513c70d22e4a96b669a0d6d64462", func := "lapwing/lapwinglaw14.EntityTwice", spec := "entityTwice", named := ["lapwing/ctrl.names"], apart := false, laid := [("lapwing/ctrl.names", laid_lapwing_ctrl_names)], narrowed := true }
def EntityTwiceUptoSaid : Prop := entityTwiceUptoRow.holds Tryz.pinned (OpenSpec.upto entityTwiceSpec)

/-- 'lapwinglaw14.EntityDeaf', WHERE WHAT IT READS IS OF BULK AT MOST 1048576: true; the input reads as it did. -/
def entityDeafUptoRow : OpenClaim := { program := "ytoophfokbioaaaagreatdoor", sum := "c92be54e9ec812a8e86ce662c0868f0f34ea513c70d22e4a96b669a0d6d64462", func := "lapwing/lapwinglaw14.EntityDeaf", spec := "entityDeaf", named := ["lapwing/ctrl.names"], apart := false, laid := [("lapwing/ctrl.names", laid_lapwing_ctrl_names)], narrowed := true }
def EntityDeafUptoSaid : Prop := entityDeafUptoRow.holds Tryz.pinned (OpenSpec.upto entityDeafSpec)

/-- 'lapwinglaw14.EntityGone', WHERE WHAT IT READS IS OF BULK AT MOST 1048576: true; the input reads as it did. -/
def entityGoneUptoRow : OpenClaim := { program := "ytoophfokbioaaaagreatdoor", sum := "c92be54e9ec812a8e86ce662c0868f0f34ea513c70d22e4a96b669a0d6d64462", func := "lapwing/lapwinglaw14.EntityGone", spec := "entityGone", named := ["lapwing/ctrl.names"], apart := false, laid := [("lapwing/ctrl.names", laid_lapwing_ctrl_names)], narrowed := true }
def EntityGoneUptoSaid : Prop := entityGoneUptoRow.holds Tryz.pinned (OpenSpec.upto entityGoneSpec)

/-- 'lapwinglaw14.EntitySends', WHERE WHAT IT READS IS OF BULK AT MOST 1048576: true; the input reads as it did. -/
def entitySendsUptoRow : OpenClaim := { program := "ytoophfokbioaaaagreatdoor", sum := "c92be54e9ec812a8e86ce662c0868f0f34ea513c70d22e4a96b669a0d6d64462", func := "lapwing/lapwinglaw14.EntitySends", spec := "entitySends", named := ["lapwing/ctrl.names", "lapwing/ctrl.first"], apart := false, laid := [("lapwing/ctrl.first", laid_lapwing_ctrl_first), ("lapwing/ctrl.names", laid_lapwing_ctrl_names)], narrowed := true }
def EntitySendsUptoSaid : Prop := entitySendsUptoRow.holds Tryz.pinned (OpenSpec.upto entitySendsSpec)

end Rows
end Go.Proofs.YtoophfokbioaaaaGreatDoor
