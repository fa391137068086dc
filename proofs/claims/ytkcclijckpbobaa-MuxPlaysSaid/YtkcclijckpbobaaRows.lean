/-
  No cell of these rows narrows 'for every input' (looked for: loops, veiled, ifaces, maps, wideKeys, modest, calm, conditions, laid).
  DERIVED. THE GIVEN ROWS OF THIS SEAT. 4 by the template 'for every input the law returns true; each argument reads behind the call as it read before'; 0 by the template 'total and deterministic' (their statements: YtkcclijckpbobaaTotals.lean).
  GIVEN WITH THE SEED: the statements are not yours to turn. If you find one false, say at which input.
  Laid BY PROGRAM, IN A SANDBOX (cutbox-rows.mjs): the forced cells as the released guide's own fill.sh prints them over the translation 8a66f7aa14370100… (all of the seat's roots in one cut). By AI agents, Wed Nov 11 2026. No macro, syntax, notation, axiom, sorry.
-/
import Derived.Test.YtkcclijckpbobaaChecked
import GoSem.Claim
import GoSem.ClaimJoined
import GoSem.ClaimMapViews
import Derived.JoinedTies
import Derived.KernelRfl
namespace Go.Proofs.Ytkcclijckpbobaa
/- THE CELL 'sum', in the pinned program and in every row, IS THE sha256 OF THE DUMP (.gsa) THAT YtkcclijckpbobaaProg.lean LOADS. Nothing in Lean hashes anything: it is a label: what it is worth is what the hold of that sum in a sandbox is worth. -/
noncomputable def Try.pinned : Pinned := { name := "ytkcclijckpbobaa", sum := "8a66f7aa143701005102dffd95a06b3f06db58f4ef0062973b77a7aa437a33dd", checked := Try.checked }
namespace Rows
def none {H : Type} : Left H := { results := [], args := [] }

/-- 'lapwinglaw17.MuxPlays': WHATEVER THE INPUT: true; the input reads as it did. -/
def muxPlaysSpec : ChangeSpec := { name := "muxPlays", fn := fun _ => fun
  | [d1, d2, d3] => { results := [.lit (.bool true)], args := [d1, d2, d3] }
  | _ => none }
def muxPlaysRow : OpenClaim := { program := "ytkcclijckpbobaa", sum := "8a66f7aa143701005102dffd95a06b3f06db58f4ef0062973b77a7aa437a33dd", func := "lapwing/lapwinglaw17.MuxPlays", spec := "muxPlays", unfollowed := true, recurses := true, plainKeys := false, apart := false }
def MuxPlaysSaid : Prop := muxPlaysRow.holds Try.pinned (OpenSpec.ofChange muxPlaysSpec)

/-- ITS FALSE NEIGHBOUR: 'it returns false'. Refute it at one input. -/
def muxPlaysWrong : ChangeSpec := { name := "muxPlays", fn := fun _ => fun
  | [d1, d2, d3] => { results := [.lit (.bool false)], args := [d1, d2, d3] }
  | _ => none }
def MuxPlaysWrongFalsely : Prop := muxPlaysRow.holds Try.pinned (OpenSpec.ofChange muxPlaysWrong)

/-- 'lapwinglaw17.MuxOne': WHATEVER THE INPUT: true; the input reads as it did. -/
def muxOneSpec : ChangeSpec := { name := "muxOne", fn := fun _ => fun
  | [d1, d2, d3] => { results := [.lit (.bool true)], args := [d1, d2, d3] }
  | _ => none }
def muxOneRow : OpenClaim := { program := "ytkcclijckpbobaa", sum := "8a66f7aa143701005102dffd95a06b3f06db58f4ef0062973b77a7aa437a33dd", func := "lapwing/lapwinglaw17.MuxOne", spec := "muxOne", unfollowed := true, recurses := true, plainKeys := false, apart := false }
def MuxOneSaid : Prop := muxOneRow.holds Try.pinned (OpenSpec.ofChange muxOneSpec)

/-- ITS FALSE NEIGHBOUR: 'it returns false'. Refute it at one input. -/
def muxOneWrong : ChangeSpec := { name := "muxOne", fn := fun _ => fun
  | [d1, d2, d3] => { results := [.lit (.bool false)], args := [d1, d2, d3] }
  | _ => none }
def MuxOneWrongFalsely : Prop := muxOneRow.holds Try.pinned (OpenSpec.ofChange muxOneWrong)

/-- 'lapwinglaw17.MuxNil': WHATEVER THE INPUT: true; the input reads as it did. -/
def muxNilSpec : ChangeSpec := { name := "muxNil", fn := fun _ => fun
  | [d] => { results := [.lit (.bool true)], args := [d] }
  | _ => none }
def muxNilRow : OpenClaim := { program := "ytkcclijckpbobaa", sum := "8a66f7aa143701005102dffd95a06b3f06db58f4ef0062973b77a7aa437a33dd", func := "lapwing/lapwinglaw17.MuxNil", spec := "muxNil", unfollowed := true, recurses := true, plainKeys := false, apart := false }
def MuxNilSaid : Prop := muxNilRow.holds Try.pinned (OpenSpec.ofChange muxNilSpec)

/-- ITS FALSE NEIGHBOUR: 'it returns false'. Refute it at one input. -/
def muxNilWrong : ChangeSpec := { name := "muxNil", fn := fun _ => fun
  | [d] => { results := [.lit (.bool false)], args := [d] }
  | _ => none }
def MuxNilWrongFalsely : Prop := muxNilRow.holds Try.pinned (OpenSpec.ofChange muxNilWrong)

/-- 'lapwinglaw17.MuxParts': WHATEVER THE INPUT: true; the input reads as it did. -/
def muxPartsSpec : ChangeSpec := { name := "muxParts", fn := fun _ => fun
  | [d1, d2] => { results := [.lit (.bool true)], args := [d1, d2] }
  | _ => none }
def muxPartsRow : OpenClaim := { program := "ytkcclijckpbobaa", sum := "8a66f7aa143701005102dffd95a06b3f06db58f4ef0062973b77a7aa437a33dd", func := "lapwing/lapwinglaw17.MuxParts", spec := "muxParts", unfollowed := true, recurses := true, plainKeys := false, apart := false }
def MuxPartsSaid : Prop := muxPartsRow.holds Try.pinned (OpenSpec.ofChange muxPartsSpec)

/-- ITS FALSE NEIGHBOUR: 'it returns false'. Refute it at one input. -/
def muxPartsWrong : ChangeSpec := { name := "muxParts", fn := fun _ => fun
  | [d1, d2] => { results := [.lit (.bool false)], args := [d1, d2] }
  | _ => none }
def MuxPartsWrongFalsely : Prop := muxPartsRow.holds Try.pinned (OpenSpec.ofChange muxPartsWrong)

/- THE SECOND FORM. 'bulk': how many values and letters a reading holds, each counted each time it is reached (what is shared counts as often as it is met; a slice's spare places count too). A statement '..UptoSaid' is the law's where the arguments, and the package variables that the reading takes, are together of bulk at most 1048576: NARROWER than '..Said'. Prove '..Said' where nothing that the law and all that it calls make is longer than what came in: it says more and counts as full. Else prove '..UptoSaid'. A law counts once. -/
mutual
def uptoBulk {H : Type} : DataW H → Nat
  | .lit (.string bytes) => bytes.length + 1
  | .lit _ => 1
  | .nil => 1
  | .ptr d => uptoBulk d + 1
  | .slice elems spare => uptoBulkAll elems + uptoBulkAll spare + 1
  | .agg parts => uptoBulkAll parts + 1
  | .iface _ d => uptoBulk d + 1
  | .map entries => uptoBulkEntries entries + 1
  | .held _ => 1
def uptoBulkAll {H : Type} : List (DataW H) → Nat
  | [] => 0
  | d :: r => uptoBulk d + uptoBulkAll r
def uptoBulkEntries {H : Type} : List (Lit × DataW H) → Nat
  | [] => 0
  | x :: r => uptoBulkEntry x + uptoBulkEntries r
def uptoBulkEntry {H : Type} : Lit × DataW H → Nat
  | (.string bytes, d) => bytes.length + uptoBulk d + 1
  | (_, d) => uptoBulk d + 1
 end
def uptoSmall : (H : Type) → List (DataW H) → Bool := fun _ ds => decide (uptoBulkAll ds ≤ 1048576)
def OpenSpec.upto (s : _root_.Go.ChangeSpec) : _root_.Go.OpenSpec := { _root_.Go.OpenSpec.ofChange s with cond := some uptoSmall }

/-- 'lapwinglaw17.MuxPlays', WHERE WHAT IT READS IS OF BULK AT MOST 1048576: true; the input reads as it did. -/
def muxPlaysUptoRow : OpenClaim := { program := "ytkcclijckpbobaa", sum := "8a66f7aa143701005102dffd95a06b3f06db58f4ef0062973b77a7aa437a33dd", func := "lapwing/lapwinglaw17.MuxPlays", spec := "muxPlays", unfollowed := true, recurses := true, plainKeys := false, apart := false, narrowed := true }
def MuxPlaysUptoSaid : Prop := muxPlaysUptoRow.holds Try.pinned (OpenSpec.upto muxPlaysSpec)

/-- 'lapwinglaw17.MuxOne', WHERE WHAT IT READS IS OF BULK AT MOST 1048576: true; the input reads as it did. -/
def muxOneUptoRow : OpenClaim := { program := "ytkcclijckpbobaa", sum := "8a66f7aa143701005102dffd95a06b3f06db58f4ef0062973b77a7aa437a33dd", func := "lapwing/lapwinglaw17.MuxOne", spec := "muxOne", unfollowed := true, recurses := true, plainKeys := false, apart := false, narrowed := true }
def MuxOneUptoSaid : Prop := muxOneUptoRow.holds Try.pinned (OpenSpec.upto muxOneSpec)

/-- 'lapwinglaw17.MuxNil', WHERE WHAT IT READS IS OF BULK AT MOST 1048576: true; the input reads as it did. -/
def muxNilUptoRow : OpenClaim := { program := "ytkcclijckpbobaa", sum := "8a66f7aa143701005102dffd95a06b3f06db58f4ef0062973b77a7aa437a33dd", func := "lapwing/lapwinglaw17.MuxNil", spec := "muxNil", unfollowed := true, recurses := true, plainKeys := false, apart := false, narrowed := true }
def MuxNilUptoSaid : Prop := muxNilUptoRow.holds Try.pinned (OpenSpec.upto muxNilSpec)

/-- 'lapwinglaw17.MuxParts', WHERE WHAT IT READS IS OF BULK AT MOST 1048576: true; the input reads as it did. -/
def muxPartsUptoRow : OpenClaim := { program := "ytkcclijckpbobaa", sum := "8a66f7aa143701005102dffd95a06b3f06db58f4ef0062973b77a7aa437a33dd", func := "lapwing/lapwinglaw17.MuxParts", spec := "muxParts", unfollowed := true, recurses := true, plainKeys := false, apart := false, narrowed := true }
def MuxPartsUptoSaid : Prop := muxPartsUptoRow.holds Try.pinned (OpenSpec.upto muxPartsSpec)

end Rows
end Go.Proofs.Ytkcclijckpbobaa
