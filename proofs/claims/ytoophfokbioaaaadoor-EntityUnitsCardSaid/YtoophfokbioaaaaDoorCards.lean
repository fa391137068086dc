/-
  DERIVED. GIVEN WITH THE SEED: THE CARDS: each row of YtoophfokbioaaaaDoorRows.lean that lists a variable, with what it lists TIED to the program's text (the seventh form; the later family's looks); each row that meets fmt, with fmt's text TOLD by the authors' own Lean function (tested against real Go, not proved from fmt's source: count such statements apart). THE CARD IS WHAT COUNTS. Prove the row's statement (the work); the ties are given (YtoophfokbioaaaaDoorTie.lean); close each card by the builder's one call (the guide's Derived/Test/ToyasCard.lean, 'card_holds'). Laid BY PROGRAM, IN A SANDBOX (cutbox-door.mjs). By AI agents, Wed Nov 11 2026. No macro, syntax, notation, axiom, sorry.
-/
import Derived.Test.YtoophfokbioaaaaDoorRows
import GoSem.ClaimSeven
namespace Go.Proofs.YtoophfokbioaaaaDoor
namespace Rows

/-- THE TIED CARD OF 'lapwinglaw14.EntityUnits'. -/
def entityUnitsCard : Claim7 := { stood := { row := entityUnitsRow, standIns := [], harness := (true, "6714012758024d5991e3576a4b34a4a911f20a1cea3f0d3e26704599e98c7e4a"), looks := false }, kinds := [], alts := [], laidByText := true, laidKinds := [.data], laidTests := true, laidLooks := .later }
def EntityUnitsCardSaid : Prop := Claim7.holds Tryd.pinned (.plain (OpenSpec.ofChange entityUnitsSpec)) entityUnitsCard

/-- THE TIED CARD OF 'lapwinglaw14.EntityNil'. -/
def entityNilCard : Claim7 := { stood := { row := entityNilRow, standIns := [], harness := (true, "6714012758024d5991e3576a4b34a4a911f20a1cea3f0d3e26704599e98c7e4a"), looks := false }, kinds := [], alts := [], laidByText := true, laidKinds := [.data], laidTests := true, laidLooks := .later }
def EntityNilCardSaid : Prop := Claim7.holds Tryd.pinned (.plain (OpenSpec.ofChange entityNilSpec)) entityNilCard

/-- THE SECOND FORM's CARD OF 'lapwinglaw14.EntityUnits'. -/
def entityUnitsUptoCard : Claim7 := { stood := { row := entityUnitsUptoRow, standIns := [], harness := (true, "6714012758024d5991e3576a4b34a4a911f20a1cea3f0d3e26704599e98c7e4a"), looks := false }, kinds := [], alts := [], laidByText := true, laidKinds := [.data], laidTests := true, laidLooks := .later }
def EntityUnitsUptoCardSaid : Prop := Claim7.holds Tryd.pinned (.plain (OpenSpec.upto entityUnitsSpec)) entityUnitsUptoCard

/-- THE SECOND FORM's CARD OF 'lapwinglaw14.EntityNil'. -/
def entityNilUptoCard : Claim7 := { stood := { row := entityNilUptoRow, standIns := [], harness := (true, "6714012758024d5991e3576a4b34a4a911f20a1cea3f0d3e26704599e98c7e4a"), looks := false }, kinds := [], alts := [], laidByText := true, laidKinds := [.data], laidTests := true, laidLooks := .later }
def EntityNilUptoCardSaid : Prop := Claim7.holds Tryd.pinned (.plain (OpenSpec.upto entityNilSpec)) entityNilUptoCard
end Rows
end Go.Proofs.YtoophfokbioaaaaDoor
