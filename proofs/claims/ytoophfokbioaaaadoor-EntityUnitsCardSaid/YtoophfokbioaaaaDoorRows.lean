/-
  NARROWER THAN 'FOR EVERY INPUT', by the rows' own cells (each row's printed sentence says how): EntityUnits: laid · EntityNil: laid.
  DERIVED. THE GIVEN ROWS OF THIS SEAT. 2 by the template 'for every input the law returns true; each argument reads behind the call as it read before'; 0 by the template 'total and deterministic' (their statements: YtoophfokbioaaaaDoorTotals.lean).
  GIVEN WITH THE SEED: the statements are not yours to turn. If you find one false, say at which input.
  Laid BY PROGRAM, IN A SANDBOX (cutbox-rows.mjs): the forced cells as the released guide's own fill.sh prints them over the translation 08b115017a74ba78… (all of the seat's roots in one cut). By AI agents, Wed Nov 11 2026. No macro, syntax, notation, axiom, sorry.
-/
import Derived.Test.YtoophfokbioaaaaDoorChecked
import GoSem.Claim
import GoSem.ClaimJoined
import GoSem.ClaimMapViews
import Derived.JoinedTies
import Derived.KernelRfl
namespace Go.Proofs.YtoophfokbioaaaaDoor
/- THE CELL 'sum', in the pinned program and in every row, IS THE sha256 OF THE DUMP (.gsa) THAT YtoophfokbioaaaaDoorProg.lean LOADS. Nothing in Lean hashes anything: it is a label: what it is worth is what the hold of that sum in a sandbox is worth. -/
noncomputable def Tryd.pinned : Pinned := { name := "ytoophfokbioaaaadoor", sum := "08b115017a74ba78cbe3de76db331d7ec53be58b175290663f22a1c3106d4e73", checked := Tryd.checked }
namespace Rows
def none {H : Type} : Left H := { results := [], args := [] }

/- WHAT THE LISTED PACKAGE-LEVEL VARIABLES READ AS WHEN THE CALL BEGINS. Each datum BY PROGRAM (the guide's laid-datum.mjs) off the statement by which the dump's own 'gosem.cut.vars' lays the variable. In a bare row this is a premise. The card (YtoophfokbioaaaaDoorCards.lean) ties it to the program's text. -/
def laid_lapwing_ctrl_names {H : Type} : DataW H := .agg [.lit (.string [73]), .lit (.string [82, 82]), .lit (.string [82, 78, 82]), .lit (.string [82, 69, 74]), .lit (.string [83, 65, 66, 77, 69]), .lit (.string [68, 77]), .lit (.string [85, 73]), .lit (.string [68, 73, 83, 67]), .lit (.string [85, 65]), .lit (.string [70, 82, 77, 82])]

/-- 'lapwinglaw14.EntityUnits': WHATEVER THE INPUT: true; the input reads as it did. -/
def entityUnitsSpec : ChangeSpec := { name := "entityUnits", fn := fun _ => fun
  | [d1, d2, d3] => { results := [.lit (.bool true)], args := [d1, d2, d3] }
  | _ => none }
def entityUnitsRow : OpenClaim := { program := "ytoophfokbioaaaadoor", sum := "08b115017a74ba78cbe3de76db331d7ec53be58b175290663f22a1c3106d4e73", func := "lapwing/lapwinglaw14.EntityUnits", spec := "entityUnits", named := ["lapwing/ctrl.names"], apart := false, laid := [("lapwing/ctrl.names", laid_lapwing_ctrl_names)] }
def EntityUnitsSaid : Prop := entityUnitsRow.holds Tryd.pinned (OpenSpec.ofChange entityUnitsSpec)

/-- ITS FALSE NEIGHBOUR: 'it returns false'. Refute it at one input. -/
def entityUnitsWrong : ChangeSpec := { name := "entityUnits", fn := fun _ => fun
  | [d1, d2, d3] => { results := [.lit (.bool false)], args := [d1, d2, d3] }
  | _ => none }
def EntityUnitsWrongFalsely : Prop := entityUnitsRow.holds Tryd.pinned (OpenSpec.ofChange entityUnitsWrong)

/-- 'lapwinglaw14.EntityNil': WHATEVER THE INPUT: true; the input reads as it did. -/
def entityNilSpec : ChangeSpec := { name := "entityNil", fn := fun _ => fun
  | [d] => { results := [.lit (.bool true)], args := [d] }
  | _ => none }
def entityNilRow : OpenClaim := { program := "ytoophfokbioaaaadoor", sum := "08b115017a74ba78cbe3de76db331d7ec53be58b175290663f22a1c3106d4e73", func := "lapwing/lapwinglaw14.EntityNil", spec := "entityNil", named := ["lapwing/ctrl.names"], apart := false, laid := [("lapwing/ctrl.names", laid_lapwing_ctrl_names)] }
def EntityNilSaid : Prop := entityNilRow.holds Tryd.pinned (OpenSpec.ofChange entityNilSpec)

/-- ITS FALSE NEIGHBOUR: 'it returns false'. Refute it at one input. -/
def entityNilWrong : ChangeSpec := { name := "entityNil", fn := fun _ => fun
  | [d] => { results := [.lit (.bool false)], args := [d] }
  | _ => none }
def EntityNilWrongFalsely : Prop := entityNilRow.holds Tryd.pinned (OpenSpec.ofChange entityNilWrong)

/- THE SECOND FORM. 'bulk': how many values and letters a reading holds, each counted each time it is reached (what is shared counts as often as it is met; a slice's spare places count too). A statement '..UptoSaid' is the law's where the arguments, and the package variables that the reading takes, are together of bulk at most 1048576: NARROWER than '..Said'. Prove '..Said' where nothing that the law and all that it calls make is longer than what came in: it says more and counts as full. Else prove '..UptoSaid'. A law counts once. -/
mutual
def uptoBulk {H : Type} : DataW H → Nat
  | .lit (.string bytes) => bytes.length + 1
  | .lit _ => 1
  | .nil => 1
  | .ptr d => uptoBulk d + 1
  | .slice elems spare => uptoBulkAll elems + uptoBulkAll spare + 1
  | .agg parts => uptoBulkAll parts + 1
  | .iface _ d => uptoBulk d + 1
  | .map entries => uptoBulkEntries entries + 1
  | .held _ => 1
def uptoBulkAll {H : Type} : List (DataW H) → Nat
  | [] => 0
  | d :: r => uptoBulk d + uptoBulkAll r
def uptoBulkEntries {H : Type} : List (Lit × DataW H) → Nat
  | [] => 0
  | x :: r => uptoBulkEntry x + uptoBulkEntries r
def uptoBulkEntry {H : Type} : Lit × DataW H → Nat
  | (.string bytes, d) => bytes.length + uptoBulk d + 1
  | (_, d) => uptoBulk d + 1
 end
def uptoSmall : (H : Type) → List (DataW H) → Bool := fun _ ds => decide (uptoBulkAll ds ≤ 1048576)
def OpenSpec.upto (s : _root_.Go.ChangeSpec) : _root_.Go.OpenSpec := { _root_.Go.OpenSpec.ofChange s with cond := some uptoSmall }

/-- 'lapwinglaw14.EntityUnits', WHERE WHAT IT READS IS OF BULK AT MOST 1048576: true; the input reads as it did. -/
def entityUnitsUptoRow : OpenClaim := { program := "ytoophfokbioaaaadoor", sum := "08b115017a74ba78cbe3de76db331d7ec53be58b175290663f22a1c3106d4e73", func := "lapwing/lapwinglaw14.EntityUnits", spec := "entityUnits", named := ["lapwing/ctrl.names"], apart := false, laid := [("lapwing/ctrl.names", laid_lapwing_ctrl_names)], narrowed := true }
def EntityUnitsUptoSaid : Prop := entityUnitsUptoRow.holds Tryd.pinned (OpenSpec.upto entityUnitsSpec)

/-- 'lapwinglaw14.EntityNil', WHERE WHAT IT READS IS OF BULK AT MOST 1048576: true; the input reads as it did. -/
def entityNilUptoRow : OpenClaim := { program := "ytoophfokbioaaaadoor", sum := "08b115017a74ba78cbe3de76db331d7ec53be58b175290663f22a1c3106d4e73", func := "lapwing/lapwinglaw14.EntityNil", spec := "entityNil", named := ["lapwing/ctrl.names"], apart := false, laid := [("lapwing/ctrl.names", laid_lapwing_ctrl_names)], narrowed := true }
def EntityNilUptoSaid : Prop := entityNilUptoRow.holds Tryd.pinned (OpenSpec.upto entityNilSpec)

end Rows
end Go.Proofs.YtoophfokbioaaaaDoor
