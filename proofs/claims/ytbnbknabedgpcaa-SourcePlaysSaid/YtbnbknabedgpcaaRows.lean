/-
  No cell of these rows narrows 'for every input' (looked for: loops, veiled, ifaces, maps, wideKeys, modest, calm, conditions, laid).
  DERIVED. THE GIVEN ROWS OF THIS SEAT. 11 by the template 'for every input the law returns true; each argument reads behind the call as it read before'; 0 by the template 'total and deterministic' (their statements: YtbnbknabedgpcaaTotals.lean).
  GIVEN WITH THE SEED: the statements are not yours to turn. If you find one false, say at which input.
  Laid BY PROGRAM, IN A SANDBOX (cutbox-rows.mjs): the forced cells as the released guide's own fill.sh prints them over the translation 8c4580f48b252c2b… (all of the seat's roots in one cut). By AI agents, Wed Nov 11 2026. No macro, syntax, notation, axiom, sorry.
-/
import Derived.Test.YtbnbknabedgpcaaChecked
import GoSem.Claim
import GoSem.ClaimJoined
import GoSem.ClaimMapViews
import Derived.JoinedTies
import Derived.KernelRfl
namespace Go.Proofs.Ytbnbknabedgpcaa
/- THE CELL 'sum', in the pinned program and in every row, IS THE sha256 OF THE DUMP (.gsa) THAT YtbnbknabedgpcaaProg.lean LOADS. Nothing in Lean hashes anything: it is a label: what it is worth is what the hold of that sum in a sandbox is worth. -/
noncomputable def Try.pinned : Pinned := { name := "ytbnbknabedgpcaa", sum := "8c4580f48b252c2b610143d9d16565986fb0b57d07a31b46035b80f3d130113b", checked := Try.checked }
namespace Rows
def none {H : Type} : Left H := { results := [], args := [] }

/-- 'lapwinglaw15.SourceDenies': WHATEVER THE INPUT: true; the input reads as it did. -/
def sourceDeniesSpec : ChangeSpec := { name := "sourceDenies", fn := fun _ => fun
  | [d] => { results := [.lit (.bool true)], args := [d] }
  | _ => none }
def sourceDeniesRow : OpenClaim := { program := "ytbnbknabedgpcaa", sum := "8c4580f48b252c2b610143d9d16565986fb0b57d07a31b46035b80f3d130113b", func := "lapwing/lapwinglaw15.SourceDenies", spec := "sourceDenies", plainKeys := false, apart := false }
def SourceDeniesSaid : Prop := sourceDeniesRow.holds Try.pinned (OpenSpec.ofChange sourceDeniesSpec)

/-- ITS FALSE NEIGHBOUR: 'it returns false'. Refute it at one input. -/
def sourceDeniesWrong : ChangeSpec := { name := "sourceDenies", fn := fun _ => fun
  | [d] => { results := [.lit (.bool false)], args := [d] }
  | _ => none }
def SourceDeniesWrongFalsely : Prop := sourceDeniesRow.holds Try.pinned (OpenSpec.ofChange sourceDeniesWrong)

/-- 'lapwinglaw09.ClockOver': WHATEVER THE INPUT: true; the input reads as it did. -/
def clockOverSpec : ChangeSpec := { name := "clockOver", fn := fun _ => fun
  | [d] => { results := [.lit (.bool true)], args := [d] }
  | _ => none }
def clockOverRow : OpenClaim := { program := "ytbnbknabedgpcaa", sum := "8c4580f48b252c2b610143d9d16565986fb0b57d07a31b46035b80f3d130113b", func := "lapwing/lapwinglaw09.ClockOver", spec := "clockOver", unfollowed := true, recurses := true, plainKeys := false, apart := false }
def ClockOverSaid : Prop := clockOverRow.holds Try.pinned (OpenSpec.ofChange clockOverSpec)

/-- ITS FALSE NEIGHBOUR: 'it returns false'. Refute it at one input. -/
def clockOverWrong : ChangeSpec := { name := "clockOver", fn := fun _ => fun
  | [d] => { results := [.lit (.bool false)], args := [d] }
  | _ => none }
def ClockOverWrongFalsely : Prop := clockOverRow.holds Try.pinned (OpenSpec.ofChange clockOverWrong)

/-- 'lapwinglaw09.ClockParts': WHATEVER THE INPUT: true; the input reads as it did. -/
def clockPartsSpec : ChangeSpec := { name := "clockParts", fn := fun _ => fun
  | [d1, d2, d3] => { results := [.lit (.bool true)], args := [d1, d2, d3] }
  | _ => none }
def clockPartsRow : OpenClaim := { program := "ytbnbknabedgpcaa", sum := "8c4580f48b252c2b610143d9d16565986fb0b57d07a31b46035b80f3d130113b", func := "lapwing/lapwinglaw09.ClockParts", spec := "clockParts", unfollowed := true, recurses := true, plainKeys := false, apart := false }
def ClockPartsSaid : Prop := clockPartsRow.holds Try.pinned (OpenSpec.ofChange clockPartsSpec)

/-- ITS FALSE NEIGHBOUR: 'it returns false'. Refute it at one input. -/
def clockPartsWrong : ChangeSpec := { name := "clockParts", fn := fun _ => fun
  | [d1, d2, d3] => { results := [.lit (.bool false)], args := [d1, d2, d3] }
  | _ => none }
def ClockPartsWrongFalsely : Prop := clockPartsRow.holds Try.pinned (OpenSpec.ofChange clockPartsWrong)

/-- 'lapwinglaw09.ClockStops': WHATEVER THE INPUT: true; the input reads as it did. -/
def clockStopsSpec : ChangeSpec := { name := "clockStops", fn := fun _ => fun
  | [d1, d2] => { results := [.lit (.bool true)], args := [d1, d2] }
  | _ => none }
def clockStopsRow : OpenClaim := { program := "ytbnbknabedgpcaa", sum := "8c4580f48b252c2b610143d9d16565986fb0b57d07a31b46035b80f3d130113b", func := "lapwing/lapwinglaw09.ClockStops", spec := "clockStops", unfollowed := true, recurses := true, plainKeys := false, apart := false }
def ClockStopsSaid : Prop := clockStopsRow.holds Try.pinned (OpenSpec.ofChange clockStopsSpec)

/-- ITS FALSE NEIGHBOUR: 'it returns false'. Refute it at one input. -/
def clockStopsWrong : ChangeSpec := { name := "clockStops", fn := fun _ => fun
  | [d1, d2] => { results := [.lit (.bool false)], args := [d1, d2] }
  | _ => none }
def ClockStopsWrongFalsely : Prop := clockStopsRow.holds Try.pinned (OpenSpec.ofChange clockStopsWrong)

/-- 'lapwinglaw09.ClockPlays': WHATEVER THE INPUT: true; the input reads as it did. -/
def clockPlaysSpec : ChangeSpec := { name := "clockPlays", fn := fun _ => fun
  | [d1, d2] => { results := [.lit (.bool true)], args := [d1, d2] }
  | _ => none }
def clockPlaysRow : OpenClaim := { program := "ytbnbknabedgpcaa", sum := "8c4580f48b252c2b610143d9d16565986fb0b57d07a31b46035b80f3d130113b", func := "lapwing/lapwinglaw09.ClockPlays", spec := "clockPlays", unfollowed := true, recurses := true, plainKeys := false, apart := false }
def ClockPlaysSaid : Prop := clockPlaysRow.holds Try.pinned (OpenSpec.ofChange clockPlaysSpec)

/-- ITS FALSE NEIGHBOUR: 'it returns false'. Refute it at one input. -/
def clockPlaysWrong : ChangeSpec := { name := "clockPlays", fn := fun _ => fun
  | [d1, d2] => { results := [.lit (.bool false)], args := [d1, d2] }
  | _ => none }
def ClockPlaysWrongFalsely : Prop := clockPlaysRow.holds Try.pinned (OpenSpec.ofChange clockPlaysWrong)

/-- 'lapwinglaw09.ClockNil': WHATEVER THE INPUT: true; the input reads as it did. -/
def clockNilSpec : ChangeSpec := { name := "clockNil", fn := fun _ => fun
  | [d] => { results := [.lit (.bool true)], args := [d] }
  | _ => none }
def clockNilRow : OpenClaim := { program := "ytbnbknabedgpcaa", sum := "8c4580f48b252c2b610143d9d16565986fb0b57d07a31b46035b80f3d130113b", func := "lapwing/lapwinglaw09.ClockNil", spec := "clockNil", unfollowed := true, recurses := true, plainKeys := false, apart := false }
def ClockNilSaid : Prop := clockNilRow.holds Try.pinned (OpenSpec.ofChange clockNilSpec)

/-- ITS FALSE NEIGHBOUR: 'it returns false'. Refute it at one input. -/
def clockNilWrong : ChangeSpec := { name := "clockNil", fn := fun _ => fun
  | [d] => { results := [.lit (.bool false)], args := [d] }
  | _ => none }
def ClockNilWrongFalsely : Prop := clockNilRow.holds Try.pinned (OpenSpec.ofChange clockNilWrong)

/-- 'lapwinglaw15.SourceStrays': WHATEVER THE INPUT: true; the input reads as it did. -/
def sourceStraysSpec : ChangeSpec := { name := "sourceStrays", fn := fun _ => fun
  | [d1, d2, d3] => { results := [.lit (.bool true)], args := [d1, d2, d3] }
  | _ => none }
def sourceStraysRow : OpenClaim := { program := "ytbnbknabedgpcaa", sum := "8c4580f48b252c2b610143d9d16565986fb0b57d07a31b46035b80f3d130113b", func := "lapwing/lapwinglaw15.SourceStrays", spec := "sourceStrays", unfollowed := true, recurses := true, plainKeys := false, apart := false }
def SourceStraysSaid : Prop := sourceStraysRow.holds Try.pinned (OpenSpec.ofChange sourceStraysSpec)

/-- ITS FALSE NEIGHBOUR: 'it returns false'. Refute it at one input. -/
def sourceStraysWrong : ChangeSpec := { name := "sourceStrays", fn := fun _ => fun
  | [d1, d2, d3] => { results := [.lit (.bool false)], args := [d1, d2, d3] }
  | _ => none }
def SourceStraysWrongFalsely : Prop := sourceStraysRow.holds Try.pinned (OpenSpec.ofChange sourceStraysWrong)

/-- 'lapwinglaw15.SourceAudits': WHATEVER THE INPUT: true; the input reads as it did. -/
def sourceAuditsSpec : ChangeSpec := { name := "sourceAudits", fn := fun _ => fun
  | [d1, d2] => { results := [.lit (.bool true)], args := [d1, d2] }
  | _ => none }
def sourceAuditsRow : OpenClaim := { program := "ytbnbknabedgpcaa", sum := "8c4580f48b252c2b610143d9d16565986fb0b57d07a31b46035b80f3d130113b", func := "lapwing/lapwinglaw15.SourceAudits", spec := "sourceAudits", unfollowed := true, recurses := true, plainKeys := false, apart := false }
def SourceAuditsSaid : Prop := sourceAuditsRow.holds Try.pinned (OpenSpec.ofChange sourceAuditsSpec)

/-- ITS FALSE NEIGHBOUR: 'it returns false'. Refute it at one input. -/
def sourceAuditsWrong : ChangeSpec := { name := "sourceAudits", fn := fun _ => fun
  | [d1, d2] => { results := [.lit (.bool false)], args := [d1, d2] }
  | _ => none }
def SourceAuditsWrongFalsely : Prop := sourceAuditsRow.holds Try.pinned (OpenSpec.ofChange sourceAuditsWrong)

/-- 'lapwinglaw15.SourcePlays': WHATEVER THE INPUT: true; the input reads as it did. -/
def sourcePlaysSpec : ChangeSpec := { name := "sourcePlays", fn := fun _ => fun
  | [d] => { results := [.lit (.bool true)], args := [d] }
  | _ => none }
def sourcePlaysRow : OpenClaim := { program := "ytbnbknabedgpcaa", sum := "8c4580f48b252c2b610143d9d16565986fb0b57d07a31b46035b80f3d130113b", func := "lapwing/lapwinglaw15.SourcePlays", spec := "sourcePlays", unfollowed := true, recurses := true, plainKeys := false, apart := false }
def SourcePlaysSaid : Prop := sourcePlaysRow.holds Try.pinned (OpenSpec.ofChange sourcePlaysSpec)

/-- ITS FALSE NEIGHBOUR: 'it returns false'. Refute it at one input. -/
def sourcePlaysWrong : ChangeSpec := { name := "sourcePlays", fn := fun _ => fun
  | [d] => { results := [.lit (.bool false)], args := [d] }
  | _ => none }
def SourcePlaysWrongFalsely : Prop := sourcePlaysRow.holds Try.pinned (OpenSpec.ofChange sourcePlaysWrong)

/-- 'lapwinglaw15.SourceGives': WHATEVER THE INPUT: true; the input reads as it did. -/
def sourceGivesSpec : ChangeSpec := { name := "sourceGives", fn := fun _ => fun
  | [d] => { results := [.lit (.bool true)], args := [d] }
  | _ => none }
def sourceGivesRow : OpenClaim := { program := "ytbnbknabedgpcaa", sum := "8c4580f48b252c2b610143d9d16565986fb0b57d07a31b46035b80f3d130113b", func := "lapwing/lapwinglaw15.SourceGives", spec := "sourceGives", unfollowed := true, recurses := true, plainKeys := false, apart := false }
def SourceGivesSaid : Prop := sourceGivesRow.holds Try.pinned (OpenSpec.ofChange sourceGivesSpec)

/-- ITS FALSE NEIGHBOUR: 'it returns false'. Refute it at one input. -/
def sourceGivesWrong : ChangeSpec := { name := "sourceGives", fn := fun _ => fun
  | [d] => { results := [.lit (.bool false)], args := [d] }
  | _ => none }
def SourceGivesWrongFalsely : Prop := sourceGivesRow.holds Try.pinned (OpenSpec.ofChange sourceGivesWrong)

/-- 'lapwinglaw15.SourceNil': WHATEVER THE INPUT: true; the input reads as it did. -/
def sourceNilSpec : ChangeSpec := { name := "sourceNil", fn := fun _ => fun
  | [d] => { results := [.lit (.bool true)], args := [d] }
  | _ => none }
def sourceNilRow : OpenClaim := { program := "ytbnbknabedgpcaa", sum := "8c4580f48b252c2b610143d9d16565986fb0b57d07a31b46035b80f3d130113b", func := "lapwing/lapwinglaw15.SourceNil", spec := "sourceNil", unfollowed := true, recurses := true, plainKeys := false, apart := false }
def SourceNilSaid : Prop := sourceNilRow.holds Try.pinned (OpenSpec.ofChange sourceNilSpec)

/-- ITS FALSE NEIGHBOUR: 'it returns false'. Refute it at one input. -/
def sourceNilWrong : ChangeSpec := { name := "sourceNil", fn := fun _ => fun
  | [d] => { results := [.lit (.bool false)], args := [d] }
  | _ => none }
def SourceNilWrongFalsely : Prop := sourceNilRow.holds Try.pinned (OpenSpec.ofChange sourceNilWrong)

/- THE SECOND FORM. 'bulk': how many values and letters a reading holds, each counted each time it is reached (what is shared counts as often as it is met; a slice's spare places count too). A statement '..UptoSaid' is the law's where the arguments, and the package variables that the reading takes, are together of bulk at most 1048576: NARROWER than '..Said'. Prove '..Said' where nothing that the law and all that it calls make is longer than what came in: it says more and counts as full. Else prove '..UptoSaid'. A law counts once. -/
mutual
def uptoBulk {H : Type} : DataW H → Nat
  | .lit (.string bytes) => bytes.length + 1
  | .lit _ => 1
  | .nil => 1
  | .ptr d => uptoBulk d + 1
  | .slice elems spare => uptoBulkAll elems + uptoBulkAll spare + 1
  | .agg parts => uptoBulkAll parts + 1
  | .iface _ d => uptoBulk d + 1
  | .map entries => uptoBulkEntries entries + 1
  | .held _ => 1
def uptoBulkAll {H : Type} : List (DataW H) → Nat
  | [] => 0
  | d :: r => uptoBulk d + uptoBulkAll r
def uptoBulkEntries {H : Type} : List (Lit × DataW H) → Nat
  | [] => 0
  | x :: r => uptoBulkEntry x + uptoBulkEntries r
def uptoBulkEntry {H : Type} : Lit × DataW H → Nat
  | (.string bytes, d) => bytes.length + uptoBulk d + 1
  | (_, d) => uptoBulk d + 1
 end
def uptoSmall : (H : Type) → List (DataW H) → Bool := fun _ ds => decide (uptoBulkAll ds ≤ 1048576)
def OpenSpec.upto (s : _root_.Go.ChangeSpec) : _root_.Go.OpenSpec := { _root_.Go.OpenSpec.ofChange s with cond := some uptoSmall }

/-- 'lapwinglaw15.SourceDenies', WHERE WHAT IT READS IS OF BULK AT MOST 1048576: true; the input reads as it did. -/
def sourceDeniesUptoRow : OpenClaim := { program := "ytbnbknabedgpcaa", sum := "8c4580f48b252c2b610143d9d16565986fb0b57d07a31b46035b80f3d130113b", func := "lapwing/lapwinglaw15.SourceDenies", spec := "sourceDenies", plainKeys := false, apart := false, narrowed := true }
def SourceDeniesUptoSaid : Prop := sourceDeniesUptoRow.holds Try.pinned (OpenSpec.upto sourceDeniesSpec)

/-- 'lapwinglaw09.ClockOver', WHERE WHAT IT READS IS OF BULK AT MOST 1048576: true; the input reads as it did. -/
def clockOverUptoRow : OpenClaim := { program := "ytbnbknabedgpcaa", sum := "8c4580f48b252c2b610143d9d16565986fb0b57d07a31b46035b80f3d130113b", func := "lapwing/lapwinglaw09.ClockOver", spec := "clockOver", unfollowed := true, recurses := true, plainKeys := false, apart := false, narrowed := true }
def ClockOverUptoSaid : Prop := clockOverUptoRow.holds Try.pinned (OpenSpec.upto clockOverSpec)

/-- 'lapwinglaw09.ClockParts', WHERE WHAT IT READS IS OF BULK AT MOST 1048576: true; the input reads as it did. -/
def clockPartsUptoRow : OpenClaim := { program := "ytbnbknabedgpcaa", sum := "8c4580f48b252c2b610143d9d16565986fb0b57d07a31b46035b80f3d130113b", func := "lapwing/lapwinglaw09.ClockParts", spec := "clockParts", unfollowed := true, recurses := true, plainKeys := false, apart := false, narrowed := true }
def ClockPartsUptoSaid : Prop := clockPartsUptoRow.holds Try.pinned (OpenSpec.upto clockPartsSpec)

/-- 'lapwinglaw09.ClockStops', WHERE WHAT IT READS IS OF BULK AT MOST 1048576: true; the input reads as it did. -/
def clockStopsUptoRow : OpenClaim := { program := "ytbnbknabedgpcaa", sum := "8c4580f48b252c2b610143d9d16565986fb0b57d07a31b46035b80f3d130113b", func := "lapwing/lapwinglaw09.ClockStops", spec := "clockStops", unfollowed := true, recurses := true, plainKeys := false, apart := false, narrowed := true }
def ClockStopsUptoSaid : Prop := clockStopsUptoRow.holds Try.pinned (OpenSpec.upto clockStopsSpec)

/-- 'lapwinglaw09.ClockPlays', WHERE WHAT IT READS IS OF BULK AT MOST 1048576: true; the input reads as it did. -/
def clockPlaysUptoRow : OpenClaim := { program := "ytbnbknabedgpcaa", sum := "8c4580f48b252c2b610143d9d16565986fb0b57d07a31b46035b80f3d130113b", func := "lapwing/lapwinglaw09.ClockPlays", spec := "clockPlays", unfollowed := true, recurses := true, plainKeys := false, apart := false, narrowed := true }
def ClockPlaysUptoSaid : Prop := clockPlaysUptoRow.holds Try.pinned (OpenSpec.upto clockPlaysSpec)

/-- 'lapwinglaw09.ClockNil', WHERE WHAT IT READS IS OF BULK AT MOST 1048576: true; the input reads as it did. -/
def clockNilUptoRow : OpenClaim := { program := "ytbnbknabedgpcaa", sum := "8c4580f48b252c2b610143d9d16565986fb0b57d07a31b46035b80f3d130113b", func := "lapwing/lapwinglaw09.ClockNil", spec := "clockNil", unfollowed := true, recurses := true, plainKeys := false, apart := false, narrowed := true }
def ClockNilUptoSaid : Prop := clockNilUptoRow.holds Try.pinned (OpenSpec.upto clockNilSpec)

/-- 'lapwinglaw15.SourceStrays', WHERE WHAT IT READS IS OF BULK AT MOST 1048576: true; the input reads as it did. -/
def sourceStraysUptoRow : OpenClaim := { program := "ytbnbknabedgpcaa", sum := "8c4580f48b252c2b610143d9d16565986fb0b57d07a31b46035b80f3d130113b", func := "lapwing/lapwinglaw15.SourceStrays", spec := "sourceStrays", unfollowed := true, recurses := true, plainKeys := false, apart := false, narrowed := true }
def SourceStraysUptoSaid : Prop := sourceStraysUptoRow.holds Try.pinned (OpenSpec.upto sourceStraysSpec)

/-- 'lapwinglaw15.SourceAudits', WHERE WHAT IT READS IS OF BULK AT MOST 1048576: true; the input reads as it did. -/
def sourceAuditsUptoRow : OpenClaim := { program := "ytbnbknabedgpcaa", sum := "8c4580f48b252c2b610143d9d16565986fb0b57d07a31b46035b80f3d130113b", func := "lapwing/lapwinglaw15.SourceAudits", spec := "sourceAudits", unfollowed := true, recurses := true, plainKeys := false, apart := false, narrowed := true }
def SourceAuditsUptoSaid : Prop := sourceAuditsUptoRow.holds Try.pinned (OpenSpec.upto sourceAuditsSpec)

/-- 'lapwinglaw15.SourcePlays', WHERE WHAT IT READS IS OF BULK AT MOST 1048576: true; the input reads as it did. -/
def sourcePlaysUptoRow : OpenClaim := { program := "ytbnbknabedgpcaa", sum := "8c4580f48b252c2b610143d9d16565986fb0b57d07a31b46035b80f3d130113b", func := "lapwing/lapwinglaw15.SourcePlays", spec := "sourcePlays", unfollowed := true, recurses := true, plainKeys := false, apart := false, narrowed := true }
def SourcePlaysUptoSaid : Prop := sourcePlaysUptoRow.holds Try.pinned (OpenSpec.upto sourcePlaysSpec)

/-- 'lapwinglaw15.SourceGives', WHERE WHAT IT READS IS OF BULK AT MOST 1048576: true; the input reads as it did. -/
def sourceGivesUptoRow : OpenClaim := { program := "ytbnbknabedgpcaa", sum := "8c4580f48b252c2b610143d9d16565986fb0b57d07a31b46035b80f3d130113b", func := "lapwing/lapwinglaw15.SourceGives", spec := "sourceGives", unfollowed := true, recurses := true, plainKeys := false, apart := false, narrowed := true }
def SourceGivesUptoSaid : Prop := sourceGivesUptoRow.holds Try.pinned (OpenSpec.upto sourceGivesSpec)

/-- 'lapwinglaw15.SourceNil', WHERE WHAT IT READS IS OF BULK AT MOST 1048576: true; the input reads as it did. -/
def sourceNilUptoRow : OpenClaim := { program := "ytbnbknabedgpcaa", sum := "8c4580f48b252c2b610143d9d16565986fb0b57d07a31b46035b80f3d130113b", func := "lapwing/lapwinglaw15.SourceNil", spec := "sourceNil", unfollowed := true, recurses := true, plainKeys := false, apart := false, narrowed := true }
def SourceNilUptoSaid : Prop := sourceNilUptoRow.holds Try.pinned (OpenSpec.upto sourceNilSpec)

end Rows
end Go.Proofs.Ytbnbknabedgpcaa
