/-
  NARROWER THAN 'FOR EVERY INPUT', by the rows' own cells (each row's printed sentence says how): TerminalOwn: laid · TerminalFails: laid · TerminalChecks: laid · TerminalPlays: laid · TerminalDrops: laid · TerminalNil: laid · TerminalTime: laid.
  DERIVED. THE GIVEN ROWS OF THIS SEAT. 7 by the template 'for every input the law returns true; each argument reads behind the call as it read before'; 0 by the template 'total and deterministic' (their statements: YtnnahljdhdippaaGreatDoorTotals.lean).
  GIVEN WITH THE SEED: the statements are not yours to turn. If you find one false, say at which input.
  Laid BY PROGRAM, IN A SANDBOX (cutbox-rows.mjs): the forced cells as the released guide's own fill.sh prints them over the translation 48e21ea183ad3439… (all of the seat's roots in one cut). By AI agents, Wed Nov 11 2026. No macro, syntax, notation, axiom, sorry.
-/
import Derived.Test.YtnnahljdhdippaaGreatDoorChecked
import GoSem.PinnedTables
import GoSem.Claim
import GoSem.ClaimJoined
import GoSem.ClaimMapViews
import Derived.JoinedTies
import Derived.KernelRfl
namespace Go.Proofs.YtnnahljdhdippaaGreatDoor
/- THE CELL 'sum', in the pinned program and in every row, IS THE sha256 OF THE DUMP (.gsa) THAT YtnnahljdhdippaaGreatDoorProg.lean LOADS. Nothing in Lean hashes anything: it is a label: what it is worth is what the hold of that sum in a sandbox is worth. -/
noncomputable def Tryz.pinned : Pinned := { name := "ytnnahljdhdippaagreatdoor", sum := "48e21ea183ad34396fe0a289b499ef67fca779cc2d6233465302afde501339c9", checked := Tryz.checked }
namespace Rows
def none {H : Type} : Left H := { results := [], args := [] }

/- WHAT THE LISTED PACKAGE-LEVEL VARIABLES READ AS WHEN THE CALL BEGINS. Each datum BY PROGRAM (the guide's laid-datum.mjs) off the statement by which the dump's own 'gosem.cut.vars' lays the variable. In a bare row this is a premise. The card (YtnnahljdhdippaaGreatDoorCards.lean) ties it to the program's text. -/
def laid_unicode_utf8_acceptRanges {H : Type} : DataW H := .agg [.agg [.lit (.int .u8 128), .lit (.int .u8 191)], .agg [.lit (.int .u8 160), .lit (.int .u8 191)], .agg [.lit (.int .u8 128), .lit (.int .u8 159)], .agg [.lit (.int .u8 144), .lit (.int .u8 191)], .agg [.lit (.int .u8 128), .lit (.int .u8 143)], .agg [.lit (.int .u8 0), .lit (.int .u8 0)], .agg [.lit (.int .u8 0), .lit (.int .u8 0)], .agg [.lit (.int .u8 0), .lit (.int .u8 0)], .agg [.lit (.int .u8 0), .lit (.int .u8 0)], .agg [.lit (.int .u8 0), .lit (.int .u8 0)], .agg [.lit (.int .u8 0), .lit (.int .u8 0)], .agg [.lit (.int .u8 0), .lit (.int .u8 0)], .agg [.lit (.int .u8 0), .lit (.int .u8 0)], .agg [.lit (.int .u8 0), .lit (.int .u8 0)], .agg [.lit (.int .u8 0), .lit (.int .u8 0)], .agg [.lit (.int .u8 0), .lit (.int .u8 0)]]
def laid_lapwing_ctrl_first {H : Type} : DataW H := .agg [.lit (.int .u8 0), .lit (.int .u8 1), .lit (.int .u8 5), .lit (.int .u8 9), .lit (.int .u8 111), .lit (.int .u8 15), .lit (.int .u8 3), .lit (.int .u8 67), .lit (.int .u8 99), .lit (.int .u8 135)]
def laid_lapwing_ctrl_names {H : Type} : DataW H := .agg [.lit (.string [73]), .lit (.string [82, 82]), .lit (.string [82, 78, 82]), .lit (.string [82, 69, 74]), .lit (.string [83, 65, 66, 77, 69]), .lit (.string [68, 77]), .lit (.string [85, 73]), .lit (.string [68, 73, 83, 67]), .lit (.string [85, 65]), .lit (.string [70, 82, 77, 82])]
def laid_lapwing_teimsg_link {H : Type} : DataW H := .agg [.lit (.int .i64 63), .lit (.int .i64 127)]
/-- One of Go's own tables, pinned by name: the form's constant. -/
def laid_unicode_utf8_first : DataW Unit := Go.Pinned.utf8First

/-- 'lapwinglaw19.TerminalOwn': WHATEVER THE INPUT: true; the input reads as it did. -/
def terminalOwnSpec : ChangeSpec := { name := "terminalOwn", fn := fun _ => fun
  | [d1, d2, d3] => { results := [.lit (.bool true)], args := [d1, d2, d3] }
  | _ => none }
def terminalOwnRow : OpenClaim := { program := "ytnnahljdhdippaagreatdoor", sum := "48e21ea183ad34396fe0a289b499ef67fca779cc2d6233465302afde501339c9", func := "lapwing/lapwinglaw19.TerminalOwn", spec := "terminalOwn", inPlace := ["internal/abi.NoEscape", "internal/bytealg.IndexByteString", "internal/bytealg.IndexString"], unfollowed := true, recurses := true, named := ["lapwing/ctrl.first", "lapwing/ctrl.names", "lapwing/teimsg.link", "unicode/utf8.first", "unicode/utf8.acceptRanges", "internal/bytealg.MaxLen"], plainKeys := false, apart := false, laid := [("unicode/utf8.acceptRanges", laid_unicode_utf8_acceptRanges), ("lapwing/ctrl.first", laid_lapwing_ctrl_first), ("lapwing/ctrl.names", laid_lapwing_ctrl_names), ("lapwing/teimsg.link", laid_lapwing_teimsg_link), ("unicode/utf8.first", laid_unicode_utf8_first)] }
def TerminalOwnSaid : Prop := terminalOwnRow.holds Tryz.pinned (OpenSpec.ofChange terminalOwnSpec)

/-- ITS FALSE NEIGHBOUR: 'it returns false'. Refute it at one input. -/
def terminalOwnWrong : ChangeSpec := { name := "terminalOwn", fn := fun _ => fun
  | [d1, d2, d3] => { results := [.lit (.bool false)], args := [d1, d2, d3] }
  | _ => none }
def TerminalOwnWrongFalsely : Prop := terminalOwnRow.holds Tryz.pinned (OpenSpec.ofChange terminalOwnWrong)

/-- 'lapwinglaw19.TerminalFails': WHATEVER THE INPUT: true; the input reads as it did. -/
def terminalFailsSpec : ChangeSpec := { name := "terminalFails", fn := fun _ => fun
  | [d1, d2] => { results := [.lit (.bool true)], args := [d1, d2] }
  | _ => none }
def terminalFailsRow : OpenClaim := { program := "ytnnahljdhdippaagreatdoor", sum := "48e21ea183ad34396fe0a289b499ef67fca779cc2d6233465302afde501339c9", func := "lapwing/lapwinglaw19.TerminalFails", spec := "terminalFails", inPlace := ["internal/abi.NoEscape", "internal/bytealg.IndexByteString", "internal/bytealg.IndexString"], unfollowed := true, recurses := true, named := ["lapwing/ctrl.first", "lapwing/ctrl.names", "lapwing/teimsg.link", "unicode/utf8.first", "unicode/utf8.acceptRanges", "internal/bytealg.MaxLen"], plainKeys := false, apart := false, laid := [("unicode/utf8.acceptRanges", laid_unicode_utf8_acceptRanges), ("lapwing/ctrl.first", laid_lapwing_ctrl_first), ("lapwing/ctrl.names", laid_lapwing_ctrl_names), ("lapwing/teimsg.link", laid_lapwing_teimsg_link), ("unicode/utf8.first", laid_unicode_utf8_first)] }
def TerminalFailsSaid : Prop := terminalFailsRow.holds Tryz.pinned (OpenSpec.ofChange terminalFailsSpec)

/-- ITS FALSE NEIGHBOUR: 'it returns false'. Refute it at one input. -/
def terminalFailsWrong : ChangeSpec := { name := "terminalFails", fn := fun _ => fun
  | [d1, d2] => { results := [.lit (.bool false)], args := [d1, d2] }
  | _ => none }
def TerminalFailsWrongFalsely : Prop := terminalFailsRow.holds Tryz.pinned (OpenSpec.ofChange terminalFailsWrong)

/-- 'lapwinglaw19.TerminalChecks': WHATEVER THE INPUT: true; the input reads as it did. -/
def terminalChecksSpec : ChangeSpec := { name := "terminalChecks", fn := fun _ => fun
  | [d1, d2] => { results := [.lit (.bool true)], args := [d1, d2] }
  | _ => none }
def terminalChecksRow : OpenClaim := { program := "ytnnahljdhdippaagreatdoor", sum := "48e21ea183ad34396fe0a289b499ef67fca779cc2d6233465302afde501339c9", func := "lapwing/lapwinglaw19.TerminalChecks", spec := "terminalChecks", inPlace := ["internal/abi.NoEscape", "internal/bytealg.IndexByteString", "internal/bytealg.IndexString"], unfollowed := true, recurses := true, named := ["lapwing/ctrl.first", "lapwing/ctrl.names", "lapwing/teimsg.link", "unicode/utf8.first", "unicode/utf8.acceptRanges", "internal/bytealg.MaxLen"], plainKeys := false, apart := false, laid := [("unicode/utf8.acceptRanges", laid_unicode_utf8_acceptRanges), ("lapwing/ctrl.first", laid_lapwing_ctrl_first), ("lapwing/ctrl.names", laid_lapwing_ctrl_names), ("lapwing/teimsg.link", laid_lapwing_teimsg_link), ("unicode/utf8.first", laid_unicode_utf8_first)] }
def TerminalChecksSaid : Prop := terminalChecksRow.holds Tryz.pinned (OpenSpec.ofChange terminalChecksSpec)

/-- ITS FALSE NEIGHBOUR: 'it returns false'. Refute it at one input. -/
def terminalChecksWrong : ChangeSpec := { name := "terminalChecks", fn := fun _ => fun
  | [d1, d2] => { results := [.lit (.bool false)], args := [d1, d2] }
  | _ => none }
def TerminalChecksWrongFalsely : Prop := terminalChecksRow.holds Tryz.pinned (OpenSpec.ofChange terminalChecksWrong)

/-- 'lapwinglaw19.TerminalPlays': WHATEVER THE INPUT: true; the input reads as it did. -/
def terminalPlaysSpec : ChangeSpec := { name := "terminalPlays", fn := fun _ => fun
  | [d1, d2, d3] => { results := [.lit (.bool true)], args := [d1, d2, d3] }
  | _ => none }
def terminalPlaysRow : OpenClaim := { program := "ytnnahljdhdippaagreatdoor", sum := "48e21ea183ad34396fe0a289b499ef67fca779cc2d6233465302afde501339c9", func := "lapwing/lapwinglaw19.TerminalPlays", spec := "terminalPlays", inPlace := ["internal/abi.NoEscape", "internal/bytealg.IndexByteString", "internal/bytealg.IndexString"], unfollowed := true, recurses := true, named := ["lapwing/ctrl.first", "lapwing/ctrl.names", "lapwing/teimsg.link", "unicode/utf8.first", "unicode/utf8.acceptRanges", "internal/bytealg.MaxLen"], plainKeys := false, apart := false, laid := [("unicode/utf8.acceptRanges", laid_unicode_utf8_acceptRanges), ("lapwing/ctrl.first", laid_lapwing_ctrl_first), ("lapwing/ctrl.names", laid_lapwing_ctrl_names), ("lapwing/teimsg.link", laid_lapwing_teimsg_link), ("unicode/utf8.first", laid_unicode_utf8_first)] }
def TerminalPlaysSaid : Prop := terminalPlaysRow.holds Tryz.pinned (OpenSpec.ofChange terminalPlaysSpec)

/-- ITS FALSE NEIGHBOUR: 'it returns false'. Refute it at one input. -/
def terminalPlaysWrong : ChangeSpec := { name := "terminalPlays", fn := fun _ => fun
  | [d1, d2, d3] => { results := [.lit (.bool false)], args := [d1, d2, d3] }
  | _ => none }
def TerminalPlaysWrongFalsely : Prop := terminalPlaysRow.holds Tryz.pinned (OpenSpec.ofChange terminalPlaysWrong)

/-- 'lapwinglaw19.TerminalDrops': WHATEVER THE INPUT: true; the input reads as it did. -/
def terminalDropsSpec : ChangeSpec := { name := "terminalDrops", fn := fun _ => fun
  | [d1, d2, d3] => { results := [.lit (.bool true)], args := [d1, d2, d3] }
  | _ => none }
def terminalDropsRow : OpenClaim := { program := "ytnnahljdhdippaagreatdoor", sum := "48e21ea183ad34396fe0a289b499ef67fca779cc2d6233465302afde501339c9", func := "lapwing/lapwinglaw19.TerminalDrops", spec := "terminalDrops", inPlace := ["internal/abi.NoEscape", "internal/bytealg.IndexByteString", "internal/bytealg.IndexString"], unfollowed := true, recurses := true, named := ["lapwing/ctrl.first", "lapwing/ctrl.names", "lapwing/teimsg.link", "unicode/utf8.first", "unicode/utf8.acceptRanges", "internal/bytealg.MaxLen"], plainKeys := false, apart := false, laid := [("unicode/utf8.acceptRanges", laid_unicode_utf8_acceptRanges), ("lapwing/ctrl.first", laid_lapwing_ctrl_first), ("lapwing/ctrl.names", laid_lapwing_ctrl_names), ("lapwing/teimsg.link", laid_lapwing_teimsg_link), ("unicode/utf8.first", laid_unicode_utf8_first)] }
def TerminalDropsSaid : Prop := terminalDropsRow.holds Tryz.pinned (OpenSpec.ofChange terminalDropsSpec)

/-- ITS FALSE NEIGHBOUR: 'it returns false'. Refute it at one input. -/
def terminalDropsWrong : ChangeSpec := { name := "terminalDrops", fn := fun _ => fun
  | [d1, d2, d3] => { results := [.lit (.bool false)], args := [d1, d2, d3] }
  | _ => none }
def TerminalDropsWrongFalsely : Prop := terminalDropsRow.holds Tryz.pinned (OpenSpec.ofChange terminalDropsWrong)

/-- 'lapwinglaw19.TerminalNil': WHATEVER THE INPUT: true; the input reads as it did. -/
def terminalNilSpec : ChangeSpec := { name := "terminalNil", fn := fun _ => fun
  | [d] => { results := [.lit (.bool true)], args := [d] }
  | _ => none }
def terminalNilRow : OpenClaim := { program := "ytnnahljdhdippaagreatdoor", sum := "48e21ea183ad34396fe0a289b499ef67fca779cc2d6233465302afde501339c9", func := "lapwing/lapwinglaw19.TerminalNil", spec := "terminalNil", inPlace := ["internal/abi.NoEscape", "internal/bytealg.IndexByteString", "internal/bytealg.IndexString"], unfollowed := true, recurses := true, named := ["lapwing/ctrl.first", "lapwing/ctrl.names", "lapwing/teimsg.link", "unicode/utf8.first", "unicode/utf8.acceptRanges", "internal/bytealg.MaxLen"], plainKeys := false, apart := false, laid := [("unicode/utf8.acceptRanges", laid_unicode_utf8_acceptRanges), ("lapwing/ctrl.first", laid_lapwing_ctrl_first), ("lapwing/ctrl.names", laid_lapwing_ctrl_names), ("lapwing/teimsg.link", laid_lapwing_teimsg_link), ("unicode/utf8.first", laid_unicode_utf8_first)] }
def TerminalNilSaid : Prop := terminalNilRow.holds Tryz.pinned (OpenSpec.ofChange terminalNilSpec)

/-- ITS FALSE NEIGHBOUR: 'it returns false'. Refute it at one input. -/
def terminalNilWrong : ChangeSpec := { name := "terminalNil", fn := fun _ => fun
  | [d] => { results := [.lit (.bool false)], args := [d] }
  | _ => none }
def TerminalNilWrongFalsely : Prop := terminalNilRow.holds Tryz.pinned (OpenSpec.ofChange terminalNilWrong)

/-- 'lapwinglaw19.TerminalTime': WHATEVER THE INPUT: true; the input reads as it did. -/
def terminalTimeSpec : ChangeSpec := { name := "terminalTime", fn := fun _ => fun
  | [d1, d2, d3] => { results := [.lit (.bool true)], args := [d1, d2, d3] }
  | _ => none }
def terminalTimeRow : OpenClaim := { program := "ytnnahljdhdippaagreatdoor", sum := "48e21ea183ad34396fe0a289b499ef67fca779cc2d6233465302afde501339c9", func := "lapwing/lapwinglaw19.TerminalTime", spec := "terminalTime", inPlace := ["internal/abi.NoEscape", "internal/bytealg.IndexByteString", "internal/bytealg.IndexString"], unfollowed := true, recurses := true, named := ["lapwing/ctrl.first", "lapwing/ctrl.names", "lapwing/teimsg.link", "unicode/utf8.first", "unicode/utf8.acceptRanges", "internal/bytealg.MaxLen"], plainKeys := false, apart := false, laid := [("unicode/utf8.acceptRanges", laid_unicode_utf8_acceptRanges), ("lapwing/ctrl.first", laid_lapwing_ctrl_first), ("lapwing/ctrl.names", laid_lapwing_ctrl_names), ("lapwing/teimsg.link", laid_lapwing_teimsg_link), ("unicode/utf8.first", laid_unicode_utf8_first)] }
def TerminalTimeSaid : Prop := terminalTimeRow.holds Tryz.pinned (OpenSpec.ofChange terminalTimeSpec)

/-- ITS FALSE NEIGHBOUR: 'it returns false'. Refute it at one input. -/
def terminalTimeWrong : ChangeSpec := { name := "terminalTime", fn := fun _ => fun
  | [d1, d2, d3] => { results := [.lit (.bool false)], args := [d1, d2, d3] }
  | _ => none }
def TerminalTimeWrongFalsely : Prop := terminalTimeRow.holds Tryz.pinned (OpenSpec.ofChange terminalTimeWrong)

/- THE SECOND FORM. 'bulk': how many values and letters a reading holds, each counted each time it is reached (what is shared counts as often as it is met; a slice's spare places count too). A statement '..UptoSaid' is the law's where the arguments, and the package variables that the reading takes, are together of bulk at most 1048576: NARROWER than '..Said'. Prove '..Said' where nothing that the law and all that it calls make is longer than what came in: it says more and counts as full. Else prove '..UptoSaid'. A law counts once. -/
mutual
def uptoBulk {H : Type} : DataW H → Nat
  | .lit (.string bytes) => bytes.length + 1
  | .lit _ => 1
  | .nil => 1
  | .ptr d => uptoBulk d + 1
  | .slice elems spare => uptoBulkAll elems + uptoBulkAll spare + 1
  | .agg parts => uptoBulkAll parts + 1
  | .iface _ d => uptoBulk d + 1
  | .map entries => uptoBulkEntries entries + 1
  | .held _ => 1
def uptoBulkAll {H : Type} : List (DataW H) → Nat
  | [] => 0
  | d :: r => uptoBulk d + uptoBulkAll r
def uptoBulkEntries {H : Type} : List (Lit × DataW H) → Nat
  | [] => 0
  | x :: r => uptoBulkEntry x + uptoBulkEntries r
def uptoBulkEntry {H : Type} : Lit × DataW H → Nat
  | (.string bytes, d) => bytes.length + uptoBulk d + 1
  | (_, d) => uptoBulk d + 1
 end
def uptoSmall : (H : Type) → List (DataW H) → Bool := fun _ ds => decide (uptoBulkAll ds ≤ 1048576)
def OpenSpec.upto (s : _root_.Go.ChangeSpec) : _root_.Go.OpenSpec := { _root_.Go.OpenSpec.ofChange s with cond := some uptoSmall }

/-- 'lapwinglaw19.TerminalOwn', WHERE WHAT IT READS IS OF BULK AT MOST 1048576: true; the input reads as it did. -/
def terminalOwnUptoRow : OpenClaim := { program := "ytnnahljdhdippaagreatdoor", sum := "48e21ea183ad34396fe0a289b499ef67fca779cc2d6233465302afde501339c9", func := "lapwing/lapwinglaw19.TerminalOwn", spec := "terminalOwn", inPlace := ["internal/abi.NoEscape", "internal/bytealg.IndexByteString", "internal/bytealg.IndexString"], unfollowed := true, recurses := true, named := ["lapwing/ctrl.first", "lapwing/ctrl.names", "lapwing/teimsg.link", "unicode/utf8.first", "unicode/utf8.acceptRanges", "internal/bytealg.MaxLen"], plainKeys := false, apart := false, laid := [("unicode/utf8.acceptRanges", laid_unicode_utf8_acceptRanges), ("lapwing/ctrl.first", laid_lapwing_ctrl_first), ("lapwing/ctrl.names", laid_lapwing_ctrl_names), ("lapwing/teimsg.link", laid_lapwing_teimsg_link), ("unicode/utf8.first", laid_unicode_utf8_first)], narrowed := true }
def TerminalOwnUptoSaid : Prop := terminalOwnUptoRow.holds Tryz.pinned (OpenSpec.upto terminalOwnSpec)

/-- 'lapwinglaw19.TerminalFails', WHERE WHAT IT READS IS OF BULK AT MOST 1048576: true; the input reads as it did. -/
def terminalFailsUptoRow : OpenClaim := { program := "ytnnahljdhdippaagreatdoor", sum := "48e21ea183ad34396fe0a289b499ef67fca779cc2d6233465302afde501339c9", func := "lapwing/lapwinglaw19.TerminalFails", spec := "terminalFails", inPlace := ["internal/abi.NoEscape", "internal/bytealg.IndexByteString", "internal/bytealg.IndexString"], unfollowed := true, recurses := true, named := ["lapwing/ctrl.first", "lapwing/ctrl.names", "lapwing/teimsg.link", "unicode/utf8.first", "unicode/utf8.acceptRanges", "internal/bytealg.MaxLen"], plainKeys := false, apart := false, laid := [("unicode/utf8.acceptRanges", laid_unicode_utf8_acceptRanges), ("lapwing/ctrl.first", laid_lapwing_ctrl_first), ("lapwing/ctrl.names", laid_lapwing_ctrl_names), ("lapwing/teimsg.link", laid_lapwing_teimsg_link), ("unicode/utf8.first", laid_unicode_utf8_first)], narrowed := true }
def TerminalFailsUptoSaid : Prop := terminalFailsUptoRow.holds Tryz.pinned (OpenSpec.upto terminalFailsSpec)

/-- 'lapwinglaw19.TerminalChecks', WHERE WHAT IT READS IS OF BULK AT MOST 1048576: true; the input reads as it did. -/
def terminalChecksUptoRow : OpenClaim := { program := "ytnnahljdhdippaagreatdoor", sum := "48e21ea183ad34396fe0a289b499ef67fca779cc2d6233465302afde501339c9", func := "lapwing/lapwinglaw19.TerminalChecks", spec := "terminalChecks", inPlace := ["internal/abi.NoEscape", "internal/bytealg.IndexByteString", "internal/bytealg.IndexString"], unfollowed := true, recurses := true, named := ["lapwing/ctrl.first", "lapwing/ctrl.names", "lapwing/teimsg.link", "unicode/utf8.first", "unicode/utf8.acceptRanges", "internal/bytealg.MaxLen"], plainKeys := false, apart := false, laid := [("unicode/utf8.acceptRanges", laid_unicode_utf8_acceptRanges), ("lapwing/ctrl.first", laid_lapwing_ctrl_first), ("lapwing/ctrl.names", laid_lapwing_ctrl_names), ("lapwing/teimsg.link", laid_lapwing_teimsg_link), ("unicode/utf8.first", laid_unicode_utf8_first)], narrowed := true }
def TerminalChecksUptoSaid : Prop := terminalChecksUptoRow.holds Tryz.pinned (OpenSpec.upto terminalChecksSpec)

/-- 'lapwinglaw19.TerminalPlays', WHERE WHAT IT READS IS OF BULK AT MOST 1048576: true; the input reads as it did. -/
def terminalPlaysUptoRow : OpenClaim := { program := "ytnnahljdhdippaagreatdoor", sum := "48e21ea183ad34396fe0a289b499ef67fca779cc2d6233465302afde501339c9", func := "lapwing/lapwinglaw19.TerminalPlays", spec := "terminalPlays", inPlace := ["internal/abi.NoEscape", "internal/bytealg.IndexByteString", "internal/bytealg.IndexString"], unfollowed := true, recurses := true, named := ["lapwing/ctrl.first", "lapwing/ctrl.names", "lapwing/teimsg.link", "unicode/utf8.first", "unicode/utf8.acceptRanges", "internal/bytealg.MaxLen"], plainKeys := false, apart := false, laid := [("unicode/utf8.acceptRanges", laid_unicode_utf8_acceptRanges), ("lapwing/ctrl.first", laid_lapwing_ctrl_first), ("lapwing/ctrl.names", laid_lapwing_ctrl_names), ("lapwing/teimsg.link", laid_lapwing_teimsg_link), ("unicode/utf8.first", laid_unicode_utf8_first)], narrowed := true }
def TerminalPlaysUptoSaid : Prop := terminalPlaysUptoRow.holds Tryz.pinned (OpenSpec.upto terminalPlaysSpec)

/-- 'lapwinglaw19.TerminalDrops', WHERE WHAT IT READS IS OF BULK AT MOST 1048576: true; the input reads as it did. -/
def terminalDropsUptoRow : OpenClaim := { program := "ytnnahljdhdippaagreatdoor", sum := "48e21ea183ad34396fe0a289b499ef67fca779cc2d6233465302afde501339c9", func := "lapwing/lapwinglaw19.TerminalDrops", spec := "terminalDrops", inPlace := ["internal/abi.NoEscape", "internal/bytealg.IndexByteString", "internal/bytealg.IndexString"], unfollowed := true, recurses := true, named := ["lapwing/ctrl.first", "lapwing/ctrl.names", "lapwing/teimsg.link", "unicode/utf8.first", "unicode/utf8.acceptRanges", "internal/bytealg.MaxLen"], plainKeys := false, apart := false, laid := [("unicode/utf8.acceptRanges", laid_unicode_utf8_acceptRanges), ("lapwing/ctrl.first", laid_lapwing_ctrl_first), ("lapwing/ctrl.names", laid_lapwing_ctrl_names), ("lapwing/teimsg.link", laid_lapwing_teimsg_link), ("unicode/utf8.first", laid_unicode_utf8_first)], narrowed := true }
def TerminalDropsUptoSaid : Prop := terminalDropsUptoRow.holds Tryz.pinned (OpenSpec.upto terminalDropsSpec)

/-- 'lapwinglaw19.TerminalNil', WHERE WHAT IT READS IS OF BULK AT MOST 1048576: true; the input reads as it did. -/
def terminalNilUptoRow : OpenClaim := { program := "ytnnahljdhdippaagreatdoor", sum := "48e21ea183ad34396fe0a289b499ef67fca779cc2d6233465302afde501339c9", func := "lapwing/lapwinglaw19.TerminalNil", spec := "terminalNil", inPlace := ["internal/abi.NoEscape", "internal/bytealg.IndexByteString", "internal/bytealg.IndexString"], unfollowed := true, recurses := true, named := ["lapwing/ctrl.first", "lapwing/ctrl.names", "lapwing/teimsg.link", "unicode/utf8.first", "unicode/utf8.acceptRanges", "internal/bytealg.MaxLen"], plainKeys := false, apart := false, laid := [("unicode/utf8.acceptRanges", laid_unicode_utf8_acceptRanges), ("lapwing/ctrl.first", laid_lapwing_ctrl_first), ("lapwing/ctrl.names", laid_lapwing_ctrl_names), ("lapwing/teimsg.link", laid_lapwing_teimsg_link), ("unicode/utf8.first", laid_unicode_utf8_first)], narrowed := true }
def TerminalNilUptoSaid : Prop := terminalNilUptoRow.holds Tryz.pinned (OpenSpec.upto terminalNilSpec)

/-- 'lapwinglaw19.TerminalTime', WHERE WHAT IT READS IS OF BULK AT MOST 1048576: true; the input reads as it did. -/
def terminalTimeUptoRow : OpenClaim := { program := "ytnnahljdhdippaagreatdoor", sum := "48e21ea183ad34396fe0a289b499ef67fca779cc2d6233465302afde501339c9", func := "lapwing/lapwinglaw19.TerminalTime", spec := "terminalTime", inPlace := ["internal/abi.NoEscape", "internal/bytealg.IndexByteString", "internal/bytealg.IndexString"], unfollowed := true, recurses := true, named := ["lapwing/ctrl.first", "lapwing/ctrl.names", "lapwing/teimsg.link", "unicode/utf8.first", "unicode/utf8.acceptRanges", "internal/bytealg.MaxLen"], plainKeys := false, apart := false, laid := [("unicode/utf8.acceptRanges", laid_unicode_utf8_acceptRanges), ("lapwing/ctrl.first", laid_lapwing_ctrl_first), ("lapwing/ctrl.names", laid_lapwing_ctrl_names), ("lapwing/teimsg.link", laid_lapwing_teimsg_link), ("unicode/utf8.first", laid_unicode_utf8_first)], narrowed := true }
def TerminalTimeUptoSaid : Prop := terminalTimeUptoRow.holds Tryz.pinned (OpenSpec.upto terminalTimeSpec)

end Rows
end Go.Proofs.YtnnahljdhdippaaGreatDoor
