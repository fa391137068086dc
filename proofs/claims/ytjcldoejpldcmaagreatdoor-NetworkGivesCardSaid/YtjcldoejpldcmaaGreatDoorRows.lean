/-
  NARROWER THAN 'FOR EVERY INPUT', by the rows' own cells (each row's printed sentence says how): NetworkGives: laid · NetworkChecks: laid · NetworkDeaf: laid · NetworkPlays: laid · NetworkNil: laid · NetworkTime: laid.
  DERIVED. THE GIVEN ROWS OF THIS SEAT. 6 by the template 'for every input the law returns true; each argument reads behind the call as it read before'; 0 by the template 'total and deterministic' (their statements: YtjcldoejpldcmaaGreatDoorTotals.lean).
  GIVEN WITH THE SEED: the statements are not yours to turn. If you find one false, say at which input.
  Laid BY PROGRAM, IN A SANDBOX (cutbox-rows.mjs): the forced cells as the released guide's own fill.sh prints them over the translation 83ad44b8d7083672… (all of the seat's roots in one cut). By AI agents, Wed Nov 11 2026. No macro, syntax, notation, axiom, sorry.
-/
import Derived.Test.YtjcldoejpldcmaaGreatDoorChecked
import GoSem.PinnedTables
import GoSem.Claim
import GoSem.ClaimJoined
import GoSem.ClaimMapViews
import Derived.JoinedTies
import Derived.KernelRfl
namespace Go.Proofs.YtjcldoejpldcmaaGreatDoor
/- THE CELL 'sum', in the pinned program and in every row, IS THE sha256 OF THE DUMP (.gsa) THAT YtjcldoejpldcmaaGreatDoorProg.lean LOADS. Nothing in Lean hashes anything: it is a label: what it is worth is what the hold of that sum in a sandbox is worth. -/
noncomputable def Tryz.pinned : Pinned := { name := "ytjcldoejpldcmaagreatdoor", sum := "83ad44b8d708367216978b63eee41380686b8a876eed4a2bf58e4e57e4eb6fdc", checked := Tryz.checked }
namespace Rows
def none {H : Type} : Left H := { results := [], args := [] }

/- WHAT THE LISTED PACKAGE-LEVEL VARIABLES READ AS WHEN THE CALL BEGINS. Each datum BY PROGRAM (the guide's laid-datum.mjs) off the statement by which the dump's own 'gosem.cut.vars' lays the variable. In a bare row this is a premise. The card (YtjcldoejpldcmaaGreatDoorCards.lean) ties it to the program's text. -/
def laid_unicode_utf8_acceptRanges {H : Type} : DataW H := .agg [.agg [.lit (.int .u8 128), .lit (.int .u8 191)], .agg [.lit (.int .u8 160), .lit (.int .u8 191)], .agg [.lit (.int .u8 128), .lit (.int .u8 159)], .agg [.lit (.int .u8 144), .lit (.int .u8 191)], .agg [.lit (.int .u8 128), .lit (.int .u8 143)], .agg [.lit (.int .u8 0), .lit (.int .u8 0)], .agg [.lit (.int .u8 0), .lit (.int .u8 0)], .agg [.lit (.int .u8 0), .lit (.int .u8 0)], .agg [.lit (.int .u8 0), .lit (.int .u8 0)], .agg [.lit (.int .u8 0), .lit (.int .u8 0)], .agg [.lit (.int .u8 0), .lit (.int .u8 0)], .agg [.lit (.int .u8 0), .lit (.int .u8 0)], .agg [.lit (.int .u8 0), .lit (.int .u8 0)], .agg [.lit (.int .u8 0), .lit (.int .u8 0)], .agg [.lit (.int .u8 0), .lit (.int .u8 0)], .agg [.lit (.int .u8 0), .lit (.int .u8 0)]]
def laid_lapwing_ctrl_first {H : Type} : DataW H := .agg [.lit (.int .u8 0), .lit (.int .u8 1), .lit (.int .u8 5), .lit (.int .u8 9), .lit (.int .u8 111), .lit (.int .u8 15), .lit (.int .u8 3), .lit (.int .u8 67), .lit (.int .u8 99), .lit (.int .u8 135)]
def laid_lapwing_ctrl_names {H : Type} : DataW H := .agg [.lit (.string [73]), .lit (.string [82, 82]), .lit (.string [82, 78, 82]), .lit (.string [82, 69, 74]), .lit (.string [83, 65, 66, 77, 69]), .lit (.string [68, 77]), .lit (.string [85, 73]), .lit (.string [68, 73, 83, 67]), .lit (.string [85, 65]), .lit (.string [70, 82, 77, 82])]
def laid_lapwing_teimsg_link {H : Type} : DataW H := .agg [.lit (.int .i64 63), .lit (.int .i64 127)]
/-- One of Go's own tables, pinned by name: the form's constant. -/
def laid_unicode_utf8_first : DataW Unit := Go.Pinned.utf8First

/-- 'lapwinglaw18.NetworkGives': WHATEVER THE INPUT: true; the input reads as it did. -/
def networkGivesSpec : ChangeSpec := { name := "networkGives", fn := fun _ => fun
  | [d1, d2] => { results := [.lit (.bool true)], args := [d1, d2] }
  | _ => none }
def networkGivesRow : OpenClaim := { program := "ytjcldoejpldcmaagreatdoor", sum := "83ad44b8d708367216978b63eee41380686b8a876eed4a2bf58e4e57e4eb6fdc", func := "lapwing/lapwinglaw18.NetworkGives", spec := "networkGives", inPlace := ["internal/abi.NoEscape", "internal/bytealg.IndexByteString", "internal/bytealg.IndexString"], unfollowed := true, recurses := true, named := ["lapwing/teimsg.link", "lapwing/ctrl.first", "lapwing/ctrl.names", "unicode/utf8.first", "unicode/utf8.acceptRanges", "internal/bytealg.MaxLen"], plainKeys := false, apart := false, laid := [("unicode/utf8.acceptRanges", laid_unicode_utf8_acceptRanges), ("lapwing/ctrl.first", laid_lapwing_ctrl_first), ("lapwing/ctrl.names", laid_lapwing_ctrl_names), ("lapwing/teimsg.link", laid_lapwing_teimsg_link), ("unicode/utf8.first", laid_unicode_utf8_first)] }
def NetworkGivesSaid : Prop := networkGivesRow.holds Tryz.pinned (OpenSpec.ofChange networkGivesSpec)

/-- ITS FALSE NEIGHBOUR: 'it returns false'. Refute it at one input. -/
def networkGivesWrong : ChangeSpec := { name := "networkGives", fn := fun _ => fun
  | [d1, d2] => { results := [.lit (.bool false)], args := [d1, d2] }
  | _ => none }
def NetworkGivesWrongFalsely : Prop := networkGivesRow.holds Tryz.pinned (OpenSpec.ofChange networkGivesWrong)

/-- 'lapwinglaw18.NetworkChecks': WHATEVER THE INPUT: true; the input reads as it did. -/
def networkChecksSpec : ChangeSpec := { name := "networkChecks", fn := fun _ => fun
  | [d1, d2] => { results := [.lit (.bool true)], args := [d1, d2] }
  | _ => none }
def networkChecksRow : OpenClaim := { program := "ytjcldoejpldcmaagreatdoor", sum := "83ad44b8d708367216978b63eee41380686b8a876eed4a2bf58e4e57e4eb6fdc", func := "lapwing/lapwinglaw18.NetworkChecks", spec := "networkChecks", inPlace := ["internal/abi.NoEscape", "internal/bytealg.IndexByteString", "internal/bytealg.IndexString"], unfollowed := true, recurses := true, named := ["lapwing/teimsg.link", "lapwing/ctrl.first", "lapwing/ctrl.names", "unicode/utf8.first", "unicode/utf8.acceptRanges", "internal/bytealg.MaxLen"], plainKeys := false, apart := false, laid := [("unicode/utf8.acceptRanges", laid_unicode_utf8_acceptRanges), ("lapwing/ctrl.first", laid_lapwing_ctrl_first), ("lapwing/ctrl.names", laid_lapwing_ctrl_names), ("lapwing/teimsg.link", laid_lapwing_teimsg_link), ("unicode/utf8.first", laid_unicode_utf8_first)] }
def NetworkChecksSaid : Prop := networkChecksRow.holds Tryz.pinned (OpenSpec.ofChange networkChecksSpec)

/-- ITS FALSE NEIGHBOUR: 'it returns false'. Refute it at one input. -/
def networkChecksWrong : ChangeSpec := { name := "networkChecks", fn := fun _ => fun
  | [d1, d2] => { results := [.lit (.bool false)], args := [d1, d2] }
  | _ => none }
def NetworkChecksWrongFalsely : Prop := networkChecksRow.holds Tryz.pinned (OpenSpec.ofChange networkChecksWrong)

/-- 'lapwinglaw18.NetworkDeaf': WHATEVER THE INPUT: true; the input reads as it did. -/
def networkDeafSpec : ChangeSpec := { name := "networkDeaf", fn := fun _ => fun
  | [d1, d2, d3] => { results := [.lit (.bool true)], args := [d1, d2, d3] }
  | _ => none }
def networkDeafRow : OpenClaim := { program := "ytjcldoejpldcmaagreatdoor", sum := "83ad44b8d708367216978b63eee41380686b8a876eed4a2bf58e4e57e4eb6fdc", func := "lapwing/lapwinglaw18.NetworkDeaf", spec := "networkDeaf", inPlace := ["internal/abi.NoEscape", "internal/bytealg.IndexByteString", "internal/bytealg.IndexString"], unfollowed := true, recurses := true, named := ["lapwing/teimsg.link", "lapwing/ctrl.first", "lapwing/ctrl.names", "unicode/utf8.first", "unicode/utf8.acceptRanges", "internal/bytealg.MaxLen"], plainKeys := false, apart := false, laid := [("unicode/utf8.acceptRanges", laid_unicode_utf8_acceptRanges), ("lapwing/ctrl.first", laid_lapwing_ctrl_first), ("lapwing/ctrl.names", laid_lapwing_ctrl_names), ("lapwing/teimsg.link", laid_lapwing_teimsg_link), ("unicode/utf8.first", laid_unicode_utf8_first)] }
def NetworkDeafSaid : Prop := networkDeafRow.holds Tryz.pinned (OpenSpec.ofChange networkDeafSpec)

/-- ITS FALSE NEIGHBOUR: 'it returns false'. Refute it at one input. -/
def networkDeafWrong : ChangeSpec := { name := "networkDeaf", fn := fun _ => fun
  | [d1, d2, d3] => { results := [.lit (.bool false)], args := [d1, d2, d3] }
  | _ => none }
def NetworkDeafWrongFalsely : Prop := networkDeafRow.holds Tryz.pinned (OpenSpec.ofChange networkDeafWrong)

/-- 'lapwinglaw18.NetworkPlays': WHATEVER THE INPUT: true; the input reads as it did. -/
def networkPlaysSpec : ChangeSpec := { name := "networkPlays", fn := fun _ => fun
  | [d1, d2] => { results := [.lit (.bool true)], args := [d1, d2] }
  | _ => none }
def networkPlaysRow : OpenClaim := { program := "ytjcldoejpldcmaagreatdoor", sum := "83ad44b8d708367216978b63eee41380686b8a876eed4a2bf58e4e57e4eb6fdc", func := "lapwing/lapwinglaw18.NetworkPlays", spec := "networkPlays", inPlace := ["internal/abi.NoEscape", "internal/bytealg.IndexByteString", "internal/bytealg.IndexString"], unfollowed := true, recurses := true, named := ["lapwing/teimsg.link", "lapwing/ctrl.first", "lapwing/ctrl.names", "unicode/utf8.first", "unicode/utf8.acceptRanges", "internal/bytealg.MaxLen"], plainKeys := false, apart := false, laid := [("unicode/utf8.acceptRanges", laid_unicode_utf8_acceptRanges), ("lapwing/ctrl.first", laid_lapwing_ctrl_first), ("lapwing/ctrl.names", laid_lapwing_ctrl_names), ("lapwing/teimsg.link", laid_lapwing_teimsg_link), ("unicode/utf8.first", laid_unicode_utf8_first)] }
def NetworkPlaysSaid : Prop := networkPlaysRow.holds Tryz.pinned (OpenSpec.ofChange networkPlaysSpec)

/-- ITS FALSE NEIGHBOUR: 'it returns false'. Refute it at one input. -/
def networkPlaysWrong : ChangeSpec := { name := "networkPlays", fn := fun _ => fun
  | [d1, d2] => { results := [.lit (.bool false)], args := [d1, d2] }
  | _ => none }
def NetworkPlaysWrongFalsely : Prop := networkPlaysRow.holds Tryz.pinned (OpenSpec.ofChange networkPlaysWrong)

/-- 'lapwinglaw18.NetworkNil': WHATEVER THE INPUT: true; the input reads as it did. -/
def networkNilSpec : ChangeSpec := { name := "networkNil", fn := fun _ => fun
  | [d] => { results := [.lit (.bool true)], args := [d] }
  | _ => none }
def networkNilRow : OpenClaim := { program := "ytjcldoejpldcmaagreatdoor", sum := "83ad44b8d708367216978b63eee41380686b8a876eed4a2bf58e4e57e4eb6fdc", func := "lapwing/lapwinglaw18.NetworkNil", spec := "networkNil", inPlace := ["internal/abi.NoEscape", "internal/bytealg.IndexByteString", "internal/bytealg.IndexString"], unfollowed := true, recurses := true, named := ["lapwing/ctrl.first", "lapwing/ctrl.names", "unicode/utf8.first", "unicode/utf8.acceptRanges", "lapwing/teimsg.link", "internal/bytealg.MaxLen"], plainKeys := false, apart := false, laid := [("unicode/utf8.acceptRanges", laid_unicode_utf8_acceptRanges), ("lapwing/ctrl.first", laid_lapwing_ctrl_first), ("lapwing/ctrl.names", laid_lapwing_ctrl_names), ("lapwing/teimsg.link", laid_lapwing_teimsg_link), ("unicode/utf8.first", laid_unicode_utf8_first)] }
def NetworkNilSaid : Prop := networkNilRow.holds Tryz.pinned (OpenSpec.ofChange networkNilSpec)

/-- ITS FALSE NEIGHBOUR: 'it returns false'. Refute it at one input. -/
def networkNilWrong : ChangeSpec := { name := "networkNil", fn := fun _ => fun
  | [d] => { results := [.lit (.bool false)], args := [d] }
  | _ => none }
def NetworkNilWrongFalsely : Prop := networkNilRow.holds Tryz.pinned (OpenSpec.ofChange networkNilWrong)

/-- 'lapwinglaw18.NetworkTime': WHATEVER THE INPUT: true; the input reads as it did. -/
def networkTimeSpec : ChangeSpec := { name := "networkTime", fn := fun _ => fun
  | [d1, d2, d3] => { results := [.lit (.bool true)], args := [d1, d2, d3] }
  | _ => none }
def networkTimeRow : OpenClaim := { program := "ytjcldoejpldcmaagreatdoor", sum := "83ad44b8d708367216978b63eee41380686b8a876eed4a2bf58e4e57e4eb6fdc", func := "lapwing/lapwinglaw18.NetworkTime", spec := "networkTime", inPlace := ["internal/abi.NoEscape", "internal/bytealg.IndexByteString", "internal/bytealg.IndexString"], unfollowed := true, recurses := true, named := ["lapwing/teimsg.link", "lapwing/ctrl.first", "lapwing/ctrl.names", "unicode/utf8.first", "unicode/utf8.acceptRanges", "internal/bytealg.MaxLen"], plainKeys := false, apart := false, laid := [("unicode/utf8.acceptRanges", laid_unicode_utf8_acceptRanges), ("lapwing/ctrl.first", laid_lapwing_ctrl_first), ("lapwing/ctrl.names", laid_lapwing_ctrl_names), ("lapwing/teimsg.link", laid_lapwing_teimsg_link), ("unicode/utf8.first", laid_unicode_utf8_first)] }
def NetworkTimeSaid : Prop := networkTimeRow.holds Tryz.pinned (OpenSpec.ofChange networkTimeSpec)

/-- ITS FALSE NEIGHBOUR: 'it returns false'. Refute it at one input. -/
def networkTimeWrong : ChangeSpec := { name := "networkTime", fn := fun _ => fun
  | [d1, d2, d3] => { results := [.lit (.bool false)], args := [d1, d2, d3] }
  | _ => none }
def NetworkTimeWrongFalsely : Prop := networkTimeRow.holds Tryz.pinned (OpenSpec.ofChange networkTimeWrong)

/- THE SECOND FORM. 'bulk': how many values and letters a reading holds, each counted each time it is reached (what is shared counts as often as it is met; a slice's spare places count too). A statement '..UptoSaid' is the law's where the arguments, and the package variables that the reading takes, are together of bulk at most 1048576: NARROWER than '..Said'. Prove '..Said' where nothing that the law and all that it calls make is longer than what came in: it says more and counts as full. Else prove '..UptoSaid'. A law counts once. -/
mutual
def uptoBulk {H : Type} : DataW H → Nat
  | .lit (.string bytes) => bytes.length + 1
  | .lit _ => 1
  | .nil => 1
  | .ptr d => uptoBulk d + 1
  | .slice elems spare => uptoBulkAll elems + uptoBulkAll spare + 1
  | .agg parts => uptoBulkAll parts + 1
  | .iface _ d => uptoBulk d + 1
  | .map entries => uptoBulkEntries entries + 1
  | .held _ => 1
def uptoBulkAll {H : Type} : List (DataW H) → Nat
  | [] => 0
  | d :: r => uptoBulk d + uptoBulkAll r
def uptoBulkEntries {H : Type} : List (Lit × DataW H) → Nat
  | [] => 0
  | x :: r => uptoBulkEntry x + uptoBulkEntries r
def uptoBulkEntry {H : Type} : Lit × DataW H → Nat
  | (.string bytes, d) => bytes.length + uptoBulk d + 1
  | (_, d) => uptoBulk d + 1
 end
def uptoSmall : (H : Type) → List (DataW H) → Bool := fun _ ds => decide (uptoBulkAll ds ≤ 1048576)
def OpenSpec.upto (s : _root_.Go.ChangeSpec) : _root_.Go.OpenSpec := { _root_.Go.OpenSpec.ofChange s with cond := some uptoSmall }

/-- 'lapwinglaw18.NetworkGives', WHERE WHAT IT READS IS OF BULK AT MOST 1048576: true; the input reads as it did. -/
def networkGivesUptoRow : OpenClaim := { program := "ytjcldoejpldcmaagreatdoor", sum := "83ad44b8d708367216978b63eee41380686b8a876eed4a2bf58e4e57e4eb6fdc", func := "lapwing/lapwinglaw18.NetworkGives", spec := "networkGives", inPlace := ["internal/abi.NoEscape", "internal/bytealg.IndexByteString", "internal/bytealg.IndexString"], unfollowed := true, recurses := true, named := ["lapwing/teimsg.link", "lapwing/ctrl.first", "lapwing/ctrl.names", "unicode/utf8.first", "unicode/utf8.acceptRanges", "internal/bytealg.MaxLen"], plainKeys := false, apart := false, laid := [("unicode/utf8.acceptRanges", laid_unicode_utf8_acceptRanges), ("lapwing/ctrl.first", laid_lapwing_ctrl_first), ("lapwing/ctrl.names", laid_lapwing_ctrl_names), ("lapwing/teimsg.link", laid_lapwing_teimsg_link), ("unicode/utf8.first", laid_unicode_utf8_first)], narrowed := true }
def NetworkGivesUptoSaid : Prop := networkGivesUptoRow.holds Tryz.pinned (OpenSpec.upto networkGivesSpec)

/-- 'lapwinglaw18.NetworkChecks', WHERE WHAT IT READS IS OF BULK AT MOST 1048576: true; the input reads as it did. -/
def networkChecksUptoRow : OpenClaim := { program := "ytjcldoejpldcmaagreatdoor", sum := "83ad44b8d708367216978b63eee41380686b8a876eed4a2bf58e4e57e4eb6fdc", func := "lapwing/lapwinglaw18.NetworkChecks", spec := "networkChecks", inPlace := ["internal/abi.NoEscape", "internal/bytealg.IndexByteString", "internal/bytealg.IndexString"], unfollowed := true, recurses := true, named := ["lapwing/teimsg.link", "lapwing/ctrl.first", "lapwing/ctrl.names", "unicode/utf8.first", "unicode/utf8.acceptRanges", "internal/bytealg.MaxLen"], plainKeys := false, apart := false, laid := [("unicode/utf8.acceptRanges", laid_unicode_utf8_acceptRanges), ("lapwing/ctrl.first", laid_lapwing_ctrl_first), ("lapwing/ctrl.names", laid_lapwing_ctrl_names), ("lapwing/teimsg.link", laid_lapwing_teimsg_link), ("unicode/utf8.first", laid_unicode_utf8_first)], narrowed := true }
def NetworkChecksUptoSaid : Prop := networkChecksUptoRow.holds Tryz.pinned (OpenSpec.upto networkChecksSpec)

/-- 'lapwinglaw18.NetworkDeaf', WHERE WHAT IT READS IS OF BULK AT MOST 1048576: true; the input reads as it did. -/
def networkDeafUptoRow : OpenClaim := { program := "ytjcldoejpldcmaagreatdoor", sum := "83ad44b8d708367216978b63eee41380686b8a876eed4a2bf58e4e57e4eb6fdc", func := "lapwing/lapwinglaw18.NetworkDeaf", spec := "networkDeaf", inPlace := ["internal/abi.NoEscape", "internal/bytealg.IndexByteString", "internal/bytealg.IndexString"], unfollowed := true, recurses := true, named := ["lapwing/teimsg.link", "lapwing/ctrl.first", "lapwing/ctrl.names", "unicode/utf8.first", "unicode/utf8.acceptRanges", "internal/bytealg.MaxLen"], plainKeys := false, apart := false, laid := [("unicode/utf8.acceptRanges", laid_unicode_utf8_acceptRanges), ("lapwing/ctrl.first", laid_lapwing_ctrl_first), ("lapwing/ctrl.names", laid_lapwing_ctrl_names), ("lapwing/teimsg.link", laid_lapwing_teimsg_link), ("unicode/utf8.first", laid_unicode_utf8_first)], narrowed := true }
def NetworkDeafUptoSaid : Prop := networkDeafUptoRow.holds Tryz.pinned (OpenSpec.upto networkDeafSpec)

/-- 'lapwinglaw18.NetworkPlays', WHERE WHAT IT READS IS OF BULK AT MOST 1048576: true; the input reads as it did. -/
def networkPlaysUptoRow : OpenClaim := { program := "ytjcldoejpldcmaagreatdoor", sum := "83ad44b8d708367216978b63eee41380686b8a876eed4a2bf58e4e57e4eb6fdc", func := "lapwing/lapwinglaw18.NetworkPlays", spec := "networkPlays", inPlace := ["internal/abi.NoEscape", "internal/bytealg.IndexByteString", "internal/bytealg.IndexString"], unfollowed := true, recurses := true, named := ["lapwing/teimsg.link", "lapwing/ctrl.first", "lapwing/ctrl.names", "unicode/utf8.first", "unicode/utf8.acceptRanges", "internal/bytealg.MaxLen"], plainKeys := false, apart := false, laid := [("unicode/utf8.acceptRanges", laid_unicode_utf8_acceptRanges), ("lapwing/ctrl.first", laid_lapwing_ctrl_first), ("lapwing/ctrl.names", laid_lapwing_ctrl_names), ("lapwing/teimsg.link", laid_lapwing_teimsg_link), ("unicode/utf8.first", laid_unicode_utf8_first)], narrowed := true }
def NetworkPlaysUptoSaid : Prop := networkPlaysUptoRow.holds Tryz.pinned (OpenSpec.upto networkPlaysSpec)

/-- 'lapwinglaw18.NetworkNil', WHERE WHAT IT READS IS OF BULK AT MOST 1048576: true; the input reads as it did. -/
def networkNilUptoRow : OpenClaim := { program := "ytjcldoejpldcmaagreatdoor", sum := "83ad44b8d708367216978b63eee41380686b8a876eed4a2bf58e4e57e4eb6fdc", func := "lapwing/lapwinglaw18.NetworkNil", spec := "networkNil", inPlace := ["internal/abi.NoEscape", "internal/bytealg.IndexByteString", "internal/bytealg.IndexString"], unfollowed := true, recurses := true, named := ["lapwing/ctrl.first", "lapwing/ctrl.names", "unicode/utf8.first", "unicode/utf8.acceptRanges", "lapwing/teimsg.link", "internal/bytealg.MaxLen"], plainKeys := false, apart := false, laid := [("unicode/utf8.acceptRanges", laid_unicode_utf8_acceptRanges), ("lapwing/ctrl.first", laid_lapwing_ctrl_first), ("lapwing/ctrl.names", laid_lapwing_ctrl_names), ("lapwing/teimsg.link", laid_lapwing_teimsg_link), ("unicode/utf8.first", laid_unicode_utf8_first)], narrowed := true }
def NetworkNilUptoSaid : Prop := networkNilUptoRow.holds Tryz.pinned (OpenSpec.upto networkNilSpec)

/-- 'lapwinglaw18.NetworkTime', WHERE WHAT IT READS IS OF BULK AT MOST 1048576: true; the input reads as it did. -/
def networkTimeUptoRow : OpenClaim := { program := "ytjcldoejpldcmaagreatdoor", sum := "83ad44b8d708367216978b63eee41380686b8a876eed4a2bf58e4e57e4eb6fdc", func := "lapwing/lapwinglaw18.NetworkTime", spec := "networkTime", inPlace := ["internal/abi.NoEscape", "internal/bytealg.IndexByteString", "internal/bytealg.IndexString"], unfollowed := true, recurses := true, named := ["lapwing/teimsg.link", "lapwing/ctrl.first", "lapwing/ctrl.names", "unicode/utf8.first", "unicode/utf8.acceptRanges", "internal/bytealg.MaxLen"], plainKeys := false, apart := false, laid := [("unicode/utf8.acceptRanges", laid_unicode_utf8_acceptRanges), ("lapwing/ctrl.first", laid_lapwing_ctrl_first), ("lapwing/ctrl.names", laid_lapwing_ctrl_names), ("lapwing/teimsg.link", laid_lapwing_teimsg_link), ("unicode/utf8.first", laid_unicode_utf8_first)], narrowed := true }
def NetworkTimeUptoSaid : Prop := networkTimeUptoRow.holds Tryz.pinned (OpenSpec.upto networkTimeSpec)

end Rows
end Go.Proofs.YtjcldoejpldcmaaGreatDoor
