/-
  DERIVED. GIVEN WITH THE SEED: THE CARDS: each row of YtnnahljdhdippaaGreatDoorRows.lean that lists a variable, with what it lists TIED to the program's text (the seventh form; the later family's looks); each row that meets fmt, with fmt's text TOLD by the authors' own Lean function (tested against real Go, not proved from fmt's source: count such statements apart). THE CARD IS WHAT COUNTS. Prove the row's statement (the work); the ties are given (YtnnahljdhdippaaGreatDoorTie.lean); close each card by the builder's one call (the guide's Derived/Test/ToyasCard.lean, 'card_holds'). Laid BY PROGRAM, IN A SANDBOX (cutbox-door.mjs). By AI agents, Wed Nov 11 2026. No macro, syntax, notation, axiom, sorry.
-/
import Derived.Test.YtnnahljdhdippaaGreatDoorRows
import GoSem.ClaimSeven
namespace Go.Proofs.YtnnahljdhdippaaGreatDoor
namespace Rows

/-- THE TIED CARD OF 'lapwinglaw19.TerminalOwn'. -/
def terminalOwnCard : Claim7 := { stood := { row := terminalOwnRow, standIns := [], harness := (true, "9215b824afe1c9ce7028b578374aad7ada32449922bc32e046094bc967d3a4d2"), looks := false }, kinds := [], alts := [], laidByText := true, laidKinds := [.data, .widerDeep, .data, .data, .pinned], laidTests := true, laidLooks := .later }
def TerminalOwnCardSaid : Prop := Claim7.holds Tryz.pinned (.plain (OpenSpec.ofChange terminalOwnSpec)) terminalOwnCard

/-- THE TIED CARD OF 'lapwinglaw19.TerminalFails'. -/
def terminalFailsCard : Claim7 := { stood := { row := terminalFailsRow, standIns := [], harness := (true, "9215b824afe1c9ce7028b578374aad7ada32449922bc32e046094bc967d3a4d2"), looks := false }, kinds := [], alts := [], laidByText := true, laidKinds := [.data, .widerDeep, .data, .data, .pinned], laidTests := true, laidLooks := .later }
def TerminalFailsCardSaid : Prop := Claim7.holds Tryz.pinned (.plain (OpenSpec.ofChange terminalFailsSpec)) terminalFailsCard

/-- THE TIED CARD OF 'lapwinglaw19.TerminalChecks'. -/
def terminalChecksCard : Claim7 := { stood := { row := terminalChecksRow, standIns := [], harness := (true, "9215b824afe1c9ce7028b578374aad7ada32449922bc32e046094bc967d3a4d2"), looks := false }, kinds := [], alts := [], laidByText := true, laidKinds := [.data, .widerDeep, .data, .data, .pinned], laidTests := true, laidLooks := .later }
def TerminalChecksCardSaid : Prop := Claim7.holds Tryz.pinned (.plain (OpenSpec.ofChange terminalChecksSpec)) terminalChecksCard

/-- THE TIED CARD OF 'lapwinglaw19.TerminalPlays'. -/
def terminalPlaysCard : Claim7 := { stood := { row := terminalPlaysRow, standIns := [], harness := (true, "9215b824afe1c9ce7028b578374aad7ada32449922bc32e046094bc967d3a4d2"), looks := false }, kinds := [], alts := [], laidByText := true, laidKinds := [.data, .widerDeep, .data, .data, .pinned], laidTests := true, laidLooks := .later }
def TerminalPlaysCardSaid : Prop := Claim7.holds Tryz.pinned (.plain (OpenSpec.ofChange terminalPlaysSpec)) terminalPlaysCard

/-- THE TIED CARD OF 'lapwinglaw19.TerminalDrops'. -/
def terminalDropsCard : Claim7 := { stood := { row := terminalDropsRow, standIns := [], harness := (true, "9215b824afe1c9ce7028b578374aad7ada32449922bc32e046094bc967d3a4d2"), looks := false }, kinds := [], alts := [], laidByText := true, laidKinds := [.data, .widerDeep, .data, .data, .pinned], laidTests := true, laidLooks := .later }
def TerminalDropsCardSaid : Prop := Claim7.holds Tryz.pinned (.plain (OpenSpec.ofChange terminalDropsSpec)) terminalDropsCard

/-- THE TIED CARD OF 'lapwinglaw19.TerminalNil'. -/
def terminalNilCard : Claim7 := { stood := { row := terminalNilRow, standIns := [], harness := (true, "9215b824afe1c9ce7028b578374aad7ada32449922bc32e046094bc967d3a4d2"), looks := false }, kinds := [], alts := [], laidByText := true, laidKinds := [.data, .widerDeep, .data, .data, .pinned], laidTests := true, laidLooks := .later }
def TerminalNilCardSaid : Prop := Claim7.holds Tryz.pinned (.plain (OpenSpec.ofChange terminalNilSpec)) terminalNilCard

/-- THE TIED CARD OF 'lapwinglaw19.TerminalTime'. -/
def terminalTimeCard : Claim7 := { stood := { row := terminalTimeRow, standIns := [], harness := (true, "9215b824afe1c9ce7028b578374aad7ada32449922bc32e046094bc967d3a4d2"), looks := false }, kinds := [], alts := [], laidByText := true, laidKinds := [.data, .widerDeep, .data, .data, .pinned], laidTests := true, laidLooks := .later }
def TerminalTimeCardSaid : Prop := Claim7.holds Tryz.pinned (.plain (OpenSpec.ofChange terminalTimeSpec)) terminalTimeCard

/-- THE SECOND FORM's CARD OF 'lapwinglaw19.TerminalOwn'. -/
def terminalOwnUptoCard : Claim7 := { stood := { row := terminalOwnUptoRow, standIns := [], harness := (true, "9215b824afe1c9ce7028b578374aad7ada32449922bc32e046094bc967d3a4d2"), looks := false }, kinds := [], alts := [], laidByText := true, laidKinds := [.data, .widerDeep, .data, .data, .pinned], laidTests := true, laidLooks := .later }
def TerminalOwnUptoCardSaid : Prop := Claim7.holds Tryz.pinned (.plain (OpenSpec.upto terminalOwnSpec)) terminalOwnUptoCard

/-- THE SECOND FORM's CARD OF 'lapwinglaw19.TerminalFails'. -/
def terminalFailsUptoCard : Claim7 := { stood := { row := terminalFailsUptoRow, standIns := [], harness := (true, "9215b824afe1c9ce7028b578374aad7ada32449922bc32e046094bc967d3a4d2"), looks := false }, kinds := [], alts := [], laidByText := true, laidKinds := [.data, .widerDeep, .data, .data, .pinned], laidTests := true, laidLooks := .later }
def TerminalFailsUptoCardSaid : Prop := Claim7.holds Tryz.pinned (.plain (OpenSpec.upto terminalFailsSpec)) terminalFailsUptoCard

/-- THE SECOND FORM's CARD OF 'lapwinglaw19.TerminalChecks'. -/
def terminalChecksUptoCard : Claim7 := { stood := { row := terminalChecksUptoRow, standIns := [], harness := (true, "9215b824afe1c9ce7028b578374aad7ada32449922bc32e046094bc967d3a4d2"), looks := false }, kinds := [], alts := [], laidByText := true, laidKinds := [.data, .widerDeep, .data, .data, .pinned], laidTests := true, laidLooks := .later }
def TerminalChecksUptoCardSaid : Prop := Claim7.holds Tryz.pinned (.plain (OpenSpec.upto terminalChecksSpec)) terminalChecksUptoCard

/-- THE SECOND FORM's CARD OF 'lapwinglaw19.TerminalPlays'. -/
def terminalPlaysUptoCard : Claim7 := { stood := { row := terminalPlaysUptoRow, standIns := [], harness := (true, "9215b824afe1c9ce7028b578374aad7ada32449922bc32e046094bc967d3a4d2"), looks := false }, kinds := [], alts := [], laidByText := true, laidKinds := [.data, .widerDeep, .data, .data, .pinned], laidTests := true, laidLooks := .later }
def TerminalPlaysUptoCardSaid : Prop := Claim7.holds Tryz.pinned (.plain (OpenSpec.upto terminalPlaysSpec)) terminalPlaysUptoCard

/-- THE SECOND FORM's CARD OF 'lapwinglaw19.TerminalDrops'. -/
def terminalDropsUptoCard : Claim7 := { stood := { row := terminalDropsUptoRow, standIns := [], harness := (true, "9215b824afe1c9ce7028b578374aad7ada32449922bc32e046094bc967d3a4d2"), looks := false }, kinds := [], alts := [], laidByText := true, laidKinds := [.data, .widerDeep, .data, .data, .pinned], laidTests := true, laidLooks := .later }
def TerminalDropsUptoCardSaid : Prop := Claim7.holds Tryz.pinned (.plain (OpenSpec.upto terminalDropsSpec)) terminalDropsUptoCard

/-- THE SECOND FORM's CARD OF 'lapwinglaw19.TerminalNil'. -/
def terminalNilUptoCard : Claim7 := { stood := { row := terminalNilUptoRow, standIns := [], harness := (true, "9215b824afe1c9ce7028b578374aad7ada32449922bc32e046094bc967d3a4d2"), looks := false }, kinds := [], alts := [], laidByText := true, laidKinds := [.data, .widerDeep, .data, .data, .pinned], laidTests := true, laidLooks := .later }
def TerminalNilUptoCardSaid : Prop := Claim7.holds Tryz.pinned (.plain (OpenSpec.upto terminalNilSpec)) terminalNilUptoCard

/-- THE SECOND FORM's CARD OF 'lapwinglaw19.TerminalTime'. -/
def terminalTimeUptoCard : Claim7 := { stood := { row := terminalTimeUptoRow, standIns := [], harness := (true, "9215b824afe1c9ce7028b578374aad7ada32449922bc32e046094bc967d3a4d2"), looks := false }, kinds := [], alts := [], laidByText := true, laidKinds := [.data, .widerDeep, .data, .data, .pinned], laidTests := true, laidLooks := .later }
def TerminalTimeUptoCardSaid : Prop := Claim7.holds Tryz.pinned (.plain (OpenSpec.upto terminalTimeSpec)) terminalTimeUptoCard
end Rows
end Go.Proofs.YtnnahljdhdippaaGreatDoor
