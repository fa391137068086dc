/-
  No cell of these rows narrows 'for every input' (looked for: loops, veiled, ifaces, maps, wideKeys, modest, calm, conditions, laid).
  DERIVED. THE GIVEN ROWS OF THIS SEAT. 12 by the template 'for every input the law returns true; each argument reads behind the call as it read before'; 0 by the template 'total and deterministic' (their statements: YtopjbiiddaoklaaTotals.lean).
  GIVEN WITH THE SEED: the statements are not yours to turn. If you find one false, say at which input.
  Laid BY PROGRAM, IN A SANDBOX (cutbox-rows.mjs): the forced cells as the released guide's own fill.sh prints them over the translation aaa90a8edd461564… (all of the seat's roots in one cut). By AI agents, Wed Nov 11 2026. No macro, syntax, notation, axiom, sorry.
-/
import Derived.Test.YtopjbiiddaoklaaChecked
import GoSem.Claim
import GoSem.ClaimJoined
import GoSem.ClaimMapViews
import Derived.JoinedTies
import Derived.KernelRfl
namespace Go.Proofs.Ytopjbiiddaoklaa
/- THE CELL 'sum', in the pinned program and in every row, IS THE sha256 OF THE DUMP (.gsa) THAT YtopjbiiddaoklaaProg.lean LOADS. Nothing in Lean hashes anything: it is a label: what it is worth is what the hold of that sum in a sandbox is worth. -/
noncomputable def Try.pinned : Pinned := { name := "ytopjbiiddaoklaa", sum := "aaa90a8edd46156473a82a8ef1c403d53a311175029b5630d972bc1f5fa2a8bb", checked := Try.checked }
namespace Rows
def none {H : Type} : Left H := { results := [], args := [] }

/-- 'lapwinglaw10.QueueOrder': WHATEVER THE INPUT: true; the input reads as it did. -/
def queueOrderSpec : ChangeSpec := { name := "queueOrder", fn := fun _ => fun
  | [d1, d2] => { results := [.lit (.bool true)], args := [d1, d2] }
  | _ => none }
def queueOrderRow : OpenClaim := { program := "ytopjbiiddaoklaa", sum := "aaa90a8edd46156473a82a8ef1c403d53a311175029b5630d972bc1f5fa2a8bb", func := "lapwing/lapwinglaw10.QueueOrder", spec := "queueOrder", apart := false }
def QueueOrderSaid : Prop := queueOrderRow.holds Try.pinned (OpenSpec.ofChange queueOrderSpec)

/-- ITS FALSE NEIGHBOUR: 'it returns false'. Refute it at one input. -/
def queueOrderWrong : ChangeSpec := { name := "queueOrder", fn := fun _ => fun
  | [d1, d2] => { results := [.lit (.bool false)], args := [d1, d2] }
  | _ => none }
def QueueOrderWrongFalsely : Prop := queueOrderRow.holds Try.pinned (OpenSpec.ofChange queueOrderWrong)

/-- 'lapwinglaw10.QueueFills': WHATEVER THE INPUT: true; the input reads as it did. -/
def queueFillsSpec : ChangeSpec := { name := "queueFills", fn := fun _ => fun
  | [d1, d2] => { results := [.lit (.bool true)], args := [d1, d2] }
  | _ => none }
def queueFillsRow : OpenClaim := { program := "ytopjbiiddaoklaa", sum := "aaa90a8edd46156473a82a8ef1c403d53a311175029b5630d972bc1f5fa2a8bb", func := "lapwing/lapwinglaw10.QueueFills", spec := "queueFills", apart := false }
def QueueFillsSaid : Prop := queueFillsRow.holds Try.pinned (OpenSpec.ofChange queueFillsSpec)

/-- ITS FALSE NEIGHBOUR: 'it returns false'. Refute it at one input. -/
def queueFillsWrong : ChangeSpec := { name := "queueFills", fn := fun _ => fun
  | [d1, d2] => { results := [.lit (.bool false)], args := [d1, d2] }
  | _ => none }
def QueueFillsWrongFalsely : Prop := queueFillsRow.holds Try.pinned (OpenSpec.ofChange queueFillsWrong)

/-- 'lapwinglaw10.QueueLists': WHATEVER THE INPUT: true; the input reads as it did. -/
def queueListsSpec : ChangeSpec := { name := "queueLists", fn := fun _ => fun
  | [d] => { results := [.lit (.bool true)], args := [d] }
  | _ => none }
def queueListsRow : OpenClaim := { program := "ytopjbiiddaoklaa", sum := "aaa90a8edd46156473a82a8ef1c403d53a311175029b5630d972bc1f5fa2a8bb", func := "lapwing/lapwinglaw10.QueueLists", spec := "queueLists", apart := false }
def QueueListsSaid : Prop := queueListsRow.holds Try.pinned (OpenSpec.ofChange queueListsSpec)

/-- ITS FALSE NEIGHBOUR: 'it returns false'. Refute it at one input. -/
def queueListsWrong : ChangeSpec := { name := "queueLists", fn := fun _ => fun
  | [d] => { results := [.lit (.bool false)], args := [d] }
  | _ => none }
def QueueListsWrongFalsely : Prop := queueListsRow.holds Try.pinned (OpenSpec.ofChange queueListsWrong)

/-- 'lapwinglaw10.QueuePlays': WHATEVER THE INPUT: true; the input reads as it did. -/
def queuePlaysSpec : ChangeSpec := { name := "queuePlays", fn := fun _ => fun
  | [d1, d2] => { results := [.lit (.bool true)], args := [d1, d2] }
  | _ => none }
def queuePlaysRow : OpenClaim := { program := "ytopjbiiddaoklaa", sum := "aaa90a8edd46156473a82a8ef1c403d53a311175029b5630d972bc1f5fa2a8bb", func := "lapwing/lapwinglaw10.QueuePlays", spec := "queuePlays", apart := false }
def QueuePlaysSaid : Prop := queuePlaysRow.holds Try.pinned (OpenSpec.ofChange queuePlaysSpec)

/-- ITS FALSE NEIGHBOUR: 'it returns false'. Refute it at one input. -/
def queuePlaysWrong : ChangeSpec := { name := "queuePlays", fn := fun _ => fun
  | [d1, d2] => { results := [.lit (.bool false)], args := [d1, d2] }
  | _ => none }
def QueuePlaysWrongFalsely : Prop := queuePlaysRow.holds Try.pinned (OpenSpec.ofChange queuePlaysWrong)

/-- 'lapwinglaw10.QueueNil': WHATEVER THE INPUT: true; the input reads as it did. -/
def queueNilSpec : ChangeSpec := { name := "queueNil", fn := fun _ => fun
  | [d1, d2] => { results := [.lit (.bool true)], args := [d1, d2] }
  | _ => none }
def queueNilRow : OpenClaim := { program := "ytopjbiiddaoklaa", sum := "aaa90a8edd46156473a82a8ef1c403d53a311175029b5630d972bc1f5fa2a8bb", func := "lapwing/lapwinglaw10.QueueNil", spec := "queueNil", apart := false }
def QueueNilSaid : Prop := queueNilRow.holds Try.pinned (OpenSpec.ofChange queueNilSpec)

/-- ITS FALSE NEIGHBOUR: 'it returns false'. Refute it at one input. -/
def queueNilWrong : ChangeSpec := { name := "queueNil", fn := fun _ => fun
  | [d1, d2] => { results := [.lit (.bool false)], args := [d1, d2] }
  | _ => none }
def QueueNilWrongFalsely : Prop := queueNilRow.holds Try.pinned (OpenSpec.ofChange queueNilWrong)

/-- 'lapwinglaw13.FlowCarries': WHATEVER THE INPUT: true; the input reads as it did. -/
def flowCarriesSpec : ChangeSpec := { name := "flowCarries", fn := fun _ => fun
  | [d1, d2, d3] => { results := [.lit (.bool true)], args := [d1, d2, d3] }
  | _ => none }
def flowCarriesRow : OpenClaim := { program := "ytopjbiiddaoklaa", sum := "aaa90a8edd46156473a82a8ef1c403d53a311175029b5630d972bc1f5fa2a8bb", func := "lapwing/lapwinglaw13.FlowCarries", spec := "flowCarries", unfollowed := true, recurses := true, apart := false }
def FlowCarriesSaid : Prop := flowCarriesRow.holds Try.pinned (OpenSpec.ofChange flowCarriesSpec)

/-- ITS FALSE NEIGHBOUR: 'it returns false'. Refute it at one input. -/
def flowCarriesWrong : ChangeSpec := { name := "flowCarries", fn := fun _ => fun
  | [d1, d2, d3] => { results := [.lit (.bool false)], args := [d1, d2, d3] }
  | _ => none }
def FlowCarriesWrongFalsely : Prop := flowCarriesRow.holds Try.pinned (OpenSpec.ofChange flowCarriesWrong)

/-- 'lapwinglaw13.FlowPlays': WHATEVER THE INPUT: true; the input reads as it did. -/
def flowPlaysSpec : ChangeSpec := { name := "flowPlays", fn := fun _ => fun
  | [d1, d2, d3] => { results := [.lit (.bool true)], args := [d1, d2, d3] }
  | _ => none }
def flowPlaysRow : OpenClaim := { program := "ytopjbiiddaoklaa", sum := "aaa90a8edd46156473a82a8ef1c403d53a311175029b5630d972bc1f5fa2a8bb", func := "lapwing/lapwinglaw13.FlowPlays", spec := "flowPlays", apart := false }
def FlowPlaysSaid : Prop := flowPlaysRow.holds Try.pinned (OpenSpec.ofChange flowPlaysSpec)

/-- ITS FALSE NEIGHBOUR: 'it returns false'. Refute it at one input. -/
def flowPlaysWrong : ChangeSpec := { name := "flowPlays", fn := fun _ => fun
  | [d1, d2, d3] => { results := [.lit (.bool false)], args := [d1, d2, d3] }
  | _ => none }
def FlowPlaysWrongFalsely : Prop := flowPlaysRow.holds Try.pinned (OpenSpec.ofChange flowPlaysWrong)

/-- 'lapwinglaw13.FlowWindow': WHATEVER THE INPUT: true; the input reads as it did. -/
def flowWindowSpec : ChangeSpec := { name := "flowWindow", fn := fun _ => fun
  | [d1, d2] => { results := [.lit (.bool true)], args := [d1, d2] }
  | _ => none }
def flowWindowRow : OpenClaim := { program := "ytopjbiiddaoklaa", sum := "aaa90a8edd46156473a82a8ef1c403d53a311175029b5630d972bc1f5fa2a8bb", func := "lapwing/lapwinglaw13.FlowWindow", spec := "flowWindow", apart := false }
def FlowWindowSaid : Prop := flowWindowRow.holds Try.pinned (OpenSpec.ofChange flowWindowSpec)

/-- ITS FALSE NEIGHBOUR: 'it returns false'. Refute it at one input. -/
def flowWindowWrong : ChangeSpec := { name := "flowWindow", fn := fun _ => fun
  | [d1, d2] => { results := [.lit (.bool false)], args := [d1, d2] }
  | _ => none }
def FlowWindowWrongFalsely : Prop := flowWindowRow.holds Try.pinned (OpenSpec.ofChange flowWindowWrong)

/-- 'lapwinglaw13.FlowNil': WHATEVER THE INPUT: true; the input reads as it did. -/
def flowNilSpec : ChangeSpec := { name := "flowNil", fn := fun _ => fun
  | [d] => { results := [.lit (.bool true)], args := [d] }
  | _ => none }
def flowNilRow : OpenClaim := { program := "ytopjbiiddaoklaa", sum := "aaa90a8edd46156473a82a8ef1c403d53a311175029b5630d972bc1f5fa2a8bb", func := "lapwing/lapwinglaw13.FlowNil", spec := "flowNil", apart := false }
def FlowNilSaid : Prop := flowNilRow.holds Try.pinned (OpenSpec.ofChange flowNilSpec)

/-- ITS FALSE NEIGHBOUR: 'it returns false'. Refute it at one input. -/
def flowNilWrong : ChangeSpec := { name := "flowNil", fn := fun _ => fun
  | [d] => { results := [.lit (.bool false)], args := [d] }
  | _ => none }
def FlowNilWrongFalsely : Prop := flowNilRow.holds Try.pinned (OpenSpec.ofChange flowNilWrong)

/-- 'lapwinglaw13.FlowRefuses': WHATEVER THE INPUT: true; the input reads as it did. -/
def flowRefusesSpec : ChangeSpec := { name := "flowRefuses", fn := fun _ => fun
  | [d1, d2, d3] => { results := [.lit (.bool true)], args := [d1, d2, d3] }
  | _ => none }
def flowRefusesRow : OpenClaim := { program := "ytopjbiiddaoklaa", sum := "aaa90a8edd46156473a82a8ef1c403d53a311175029b5630d972bc1f5fa2a8bb", func := "lapwing/lapwinglaw13.FlowRefuses", spec := "flowRefuses", apart := false }
def FlowRefusesSaid : Prop := flowRefusesRow.holds Try.pinned (OpenSpec.ofChange flowRefusesSpec)

/-- ITS FALSE NEIGHBOUR: 'it returns false'. Refute it at one input. -/
def flowRefusesWrong : ChangeSpec := { name := "flowRefuses", fn := fun _ => fun
  | [d1, d2, d3] => { results := [.lit (.bool false)], args := [d1, d2, d3] }
  | _ => none }
def FlowRefusesWrongFalsely : Prop := flowRefusesRow.holds Try.pinned (OpenSpec.ofChange flowRefusesWrong)

/-- 'lapwinglaw13.FlowStops': WHATEVER THE INPUT: true; the input reads as it did. -/
def flowStopsSpec : ChangeSpec := { name := "flowStops", fn := fun _ => fun
  | [d1, d2, d3] => { results := [.lit (.bool true)], args := [d1, d2, d3] }
  | _ => none }
def flowStopsRow : OpenClaim := { program := "ytopjbiiddaoklaa", sum := "aaa90a8edd46156473a82a8ef1c403d53a311175029b5630d972bc1f5fa2a8bb", func := "lapwing/lapwinglaw13.FlowStops", spec := "flowStops", apart := false }
def FlowStopsSaid : Prop := flowStopsRow.holds Try.pinned (OpenSpec.ofChange flowStopsSpec)

/-- ITS FALSE NEIGHBOUR: 'it returns false'. Refute it at one input. -/
def flowStopsWrong : ChangeSpec := { name := "flowStops", fn := fun _ => fun
  | [d1, d2, d3] => { results := [.lit (.bool false)], args := [d1, d2, d3] }
  | _ => none }
def FlowStopsWrongFalsely : Prop := flowStopsRow.holds Try.pinned (OpenSpec.ofChange flowStopsWrong)

/-- 'lapwinglaw13.FlowAnew': WHATEVER THE INPUT: true; the input reads as it did. -/
def flowAnewSpec : ChangeSpec := { name := "flowAnew", fn := fun _ => fun
  | [d1, d2] => { results := [.lit (.bool true)], args := [d1, d2] }
  | _ => none }
def flowAnewRow : OpenClaim := { program := "ytopjbiiddaoklaa", sum := "aaa90a8edd46156473a82a8ef1c403d53a311175029b5630d972bc1f5fa2a8bb", func := "lapwing/lapwinglaw13.FlowAnew", spec := "flowAnew", apart := false }
def FlowAnewSaid : Prop := flowAnewRow.holds Try.pinned (OpenSpec.ofChange flowAnewSpec)

/-- ITS FALSE NEIGHBOUR: 'it returns false'. Refute it at one input. -/
def flowAnewWrong : ChangeSpec := { name := "flowAnew", fn := fun _ => fun
  | [d1, d2] => { results := [.lit (.bool false)], args := [d1, d2] }
  | _ => none }
def FlowAnewWrongFalsely : Prop := flowAnewRow.holds Try.pinned (OpenSpec.ofChange flowAnewWrong)

/- THE SECOND FORM. 'bulk': how many values and letters a reading holds, each counted each time it is reached (what is shared counts as often as it is met; a slice's spare places count too). A statement '..UptoSaid' is the law's where the arguments, and the package variables that the reading takes, are together of bulk at most 1048576: NARROWER than '..Said'. Prove '..Said' where nothing that the law and all that it calls make is longer than what came in: it says more and counts as full. Else prove '..UptoSaid'. A law counts once. -/
mutual
def uptoBulk {H : Type} : DataW H → Nat
  | .lit (.string bytes) => bytes.length + 1
  | .lit _ => 1
  | .nil => 1
  | .ptr d => uptoBulk d + 1
  | .slice elems spare => uptoBulkAll elems + uptoBulkAll spare + 1
  | .agg parts => uptoBulkAll parts + 1
  | .iface _ d => uptoBulk d + 1
  | .map entries => uptoBulkEntries entries + 1
  | .held _ => 1
def uptoBulkAll {H : Type} : List (DataW H) → Nat
  | [] => 0
  | d :: r => uptoBulk d + uptoBulkAll r
def uptoBulkEntries {H : Type} : List (Lit × DataW H) → Nat
  | [] => 0
  | x :: r => uptoBulkEntry x + uptoBulkEntries r
def uptoBulkEntry {H : Type} : Lit × DataW H → Nat
  | (.string bytes, d) => bytes.length + uptoBulk d + 1
  | (_, d) => uptoBulk d + 1
 end
def uptoSmall : (H : Type) → List (DataW H) → Bool := fun _ ds => decide (uptoBulkAll ds ≤ 1048576)
def OpenSpec.upto (s : _root_.Go.ChangeSpec) : _root_.Go.OpenSpec := { _root_.Go.OpenSpec.ofChange s with cond := some uptoSmall }

/-- 'lapwinglaw10.QueueOrder', WHERE WHAT IT READS IS OF BULK AT MOST 1048576: true; the input reads as it did. -/
def queueOrderUptoRow : OpenClaim := { program := "ytopjbiiddaoklaa", sum := "aaa90a8edd46156473a82a8ef1c403d53a311175029b5630d972bc1f5fa2a8bb", func := "lapwing/lapwinglaw10.QueueOrder", spec := "queueOrder", apart := false, narrowed := true }
def QueueOrderUptoSaid : Prop := queueOrderUptoRow.holds Try.pinned (OpenSpec.upto queueOrderSpec)

/-- 'lapwinglaw10.QueueFills', WHERE WHAT IT READS IS OF BULK AT MOST 1048576: true; the input reads as it did. -/
def queueFillsUptoRow : OpenClaim := { program := "ytopjbiiddaoklaa", sum := "aaa90a8edd46156473a82a8ef1c403d53a311175029b5630d972bc1f5fa2a8bb", func := "lapwing/lapwinglaw10.QueueFills", spec := "queueFills", apart := false, narrowed := true }
def QueueFillsUptoSaid : Prop := queueFillsUptoRow.holds Try.pinned (OpenSpec.upto queueFillsSpec)

/-- 'lapwinglaw10.QueueLists', WHERE WHAT IT READS IS OF BULK AT MOST 1048576: true; the input reads as it did. -/
def queueListsUptoRow : OpenClaim := { program := "ytopjbiiddaoklaa", sum := "aaa90a8edd46156473a82a8ef1c403d53a311175029b5630d972bc1f5fa2a8bb", func := "lapwing/lapwinglaw10.QueueLists", spec := "queueLists", apart := false, narrowed := true }
def QueueListsUptoSaid : Prop := queueListsUptoRow.holds Try.pinned (OpenSpec.upto queueListsSpec)

/-- 'lapwinglaw10.QueuePlays', WHERE WHAT IT READS IS OF BULK AT MOST 1048576: true; the input reads as it did. -/
def queuePlaysUptoRow : OpenClaim := { program := "ytopjbiiddaoklaa", sum := "aaa90a8edd46156473a82a8ef1c403d53a311175029b5630d972bc1f5fa2a8bb", func := "lapwing/lapwinglaw10.QueuePlays", spec := "queuePlays", apart := false, narrowed := true }
def QueuePlaysUptoSaid : Prop := queuePlaysUptoRow.holds Try.pinned (OpenSpec.upto queuePlaysSpec)

/-- 'lapwinglaw10.QueueNil', WHERE WHAT IT READS IS OF BULK AT MOST 1048576: true; the input reads as it did. -/
def queueNilUptoRow : OpenClaim := { program := "ytopjbiiddaoklaa", sum := "aaa90a8edd46156473a82a8ef1c403d53a311175029b5630d972bc1f5fa2a8bb", func := "lapwing/lapwinglaw10.QueueNil", spec := "queueNil", apart := false, narrowed := true }
def QueueNilUptoSaid : Prop := queueNilUptoRow.holds Try.pinned (OpenSpec.upto queueNilSpec)

/-- 'lapwinglaw13.FlowCarries', WHERE WHAT IT READS IS OF BULK AT MOST 1048576: true; the input reads as it did. -/
def flowCarriesUptoRow : OpenClaim := { program := "ytopjbiiddaoklaa", sum := "aaa90a8edd46156473a82a8ef1c403d53a311175029b5630d972bc1f5fa2a8bb", func := "lapwing/lapwinglaw13.FlowCarries", spec := "flowCarries", unfollowed := true, recurses := true, apart := false, narrowed := true }
def FlowCarriesUptoSaid : Prop := flowCarriesUptoRow.holds Try.pinned (OpenSpec.upto flowCarriesSpec)

/-- 'lapwinglaw13.FlowPlays', WHERE WHAT IT READS IS OF BULK AT MOST 1048576: true; the input reads as it did. -/
def flowPlaysUptoRow : OpenClaim := { program := "ytopjbiiddaoklaa", sum := "aaa90a8edd46156473a82a8ef1c403d53a311175029b5630d972bc1f5fa2a8bb", func := "lapwing/lapwinglaw13.FlowPlays", spec := "flowPlays", apart := false, narrowed := true }
def FlowPlaysUptoSaid : Prop := flowPlaysUptoRow.holds Try.pinned (OpenSpec.upto flowPlaysSpec)

/-- 'lapwinglaw13.FlowWindow', WHERE WHAT IT READS IS OF BULK AT MOST 1048576: true; the input reads as it did. -/
def flowWindowUptoRow : OpenClaim := { program := "ytopjbiiddaoklaa", sum := "aaa90a8edd46156473a82a8ef1c403d53a311175029b5630d972bc1f5fa2a8bb", func := "lapwing/lapwinglaw13.FlowWindow", spec := "flowWindow", apart := false, narrowed := true }
def FlowWindowUptoSaid : Prop := flowWindowUptoRow.holds Try.pinned (OpenSpec.upto flowWindowSpec)

/-- 'lapwinglaw13.FlowNil', WHERE WHAT IT READS IS OF BULK AT MOST 1048576: true; the input reads as it did. -/
def flowNilUptoRow : OpenClaim := { program := "ytopjbiiddaoklaa", sum := "aaa90a8edd46156473a82a8ef1c403d53a311175029b5630d972bc1f5fa2a8bb", func := "lapwing/lapwinglaw13.FlowNil", spec := "flowNil", apart := false, narrowed := true }
def FlowNilUptoSaid : Prop := flowNilUptoRow.holds Try.pinned (OpenSpec.upto flowNilSpec)

/-- 'lapwinglaw13.FlowRefuses', WHERE WHAT IT READS IS OF BULK AT MOST 1048576: true; the input reads as it did. -/
def flowRefusesUptoRow : OpenClaim := { program := "ytopjbiiddaoklaa", sum := "aaa90a8edd46156473a82a8ef1c403d53a311175029b5630d972bc1f5fa2a8bb", func := "lapwing/lapwinglaw13.FlowRefuses", spec := "flowRefuses", apart := false, narrowed := true }
def FlowRefusesUptoSaid : Prop := flowRefusesUptoRow.holds Try.pinned (OpenSpec.upto flowRefusesSpec)

/-- 'lapwinglaw13.FlowStops', WHERE WHAT IT READS IS OF BULK AT MOST 1048576: true; the input reads as it did. -/
def flowStopsUptoRow : OpenClaim := { program := "ytopjbiiddaoklaa", sum := "aaa90a8edd46156473a82a8ef1c403d53a311175029b5630d972bc1f5fa2a8bb", func := "lapwing/lapwinglaw13.FlowStops", spec := "flowStops", apart := false, narrowed := true }
def FlowStopsUptoSaid : Prop := flowStopsUptoRow.holds Try.pinned (OpenSpec.upto flowStopsSpec)

/-- 'lapwinglaw13.FlowAnew', WHERE WHAT IT READS IS OF BULK AT MOST 1048576: true; the input reads as it did. -/
def flowAnewUptoRow : OpenClaim := { program := "ytopjbiiddaoklaa", sum := "aaa90a8edd46156473a82a8ef1c403d53a311175029b5630d972bc1f5fa2a8bb", func := "lapwing/lapwinglaw13.FlowAnew", spec := "flowAnew", apart := false, narrowed := true }
def FlowAnewUptoSaid : Prop := flowAnewUptoRow.holds Try.pinned (OpenSpec.upto flowAnewSpec)

end Rows
end Go.Proofs.Ytopjbiiddaoklaa
