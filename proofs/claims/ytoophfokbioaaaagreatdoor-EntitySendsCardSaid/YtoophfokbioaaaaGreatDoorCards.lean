/-
  DERIVED. GIVEN WITH THE SEED: THE CARDS: each row of YtoophfokbioaaaaGreatDoorRows.lean that lists a variable, with what it lists TIED to the program's text (the seventh form; the later family's looks); each row that meets fmt, with fmt's text TOLD by the authors' own Lean function (tested against real Go, not proved from fmt's source: count such statements apart). THE CARD IS WHAT COUNTS. Prove the row's statement (the work); the ties are given (YtoophfokbioaaaaGreatDoorTie.lean); close each card by the builder's one call (the guide's Derived/Test/ToyasCard.lean, 'card_holds'). Laid BY PROGRAM, IN A SANDBOX (cutbox-door.mjs). By AI agents, Wed Nov 11 2026. No macro, syntax, notation, axiom, sorry.
-/
import Derived.Test.YtoophfokbioaaaaGreatDoorRows
import GoSem.ClaimSeven
namespace Go.Proofs.YtoophfokbioaaaaGreatDoor
namespace Rows

/-- THE TIED CARD OF 'lapwinglaw14.EntityPlays'. -/
def entityPlaysCard : Claim7 := { stood := { row := entityPlaysRow, standIns := [], harness := (true, "39a64e849c75d00d5120ece337b298a9512a00329f0ef038900fdafdc34b2b22"), looks := false }, kinds := [], alts := [], laidByText := true, laidKinds := [.data], laidTests := true, laidLooks := .later }
def EntityPlaysCardSaid : Prop := Claim7.holds Tryz.pinned (.plain (OpenSpec.ofChange entityPlaysSpec)) entityPlaysCard

/-- THE TIED CARD OF 'lapwinglaw14.EntityTells'. -/
def entityTellsCard : Claim7 := { stood := { row := entityTellsRow, standIns := [], harness := (true, "39a64e849c75d00d5120ece337b298a9512a00329f0ef038900fdafdc34b2b22"), looks := false }, kinds := [], alts := [], laidByText := true, laidKinds := [.data], laidTests := true, laidLooks := .later }
def EntityTellsCardSaid : Prop := Claim7.holds Tryz.pinned (.plain (OpenSpec.ofChange entityTellsSpec)) entityTellsCard

/-- THE TIED CARD OF 'lapwinglaw14.EntityGives'. -/
def entityGivesCard : Claim7 := { stood := { row := entityGivesRow, standIns := [], harness := (true, "39a64e849c75d00d5120ece337b298a9512a00329f0ef038900fdafdc34b2b22"), looks := false }, kinds := [], alts := [], laidByText := true, laidKinds := [.data], laidTests := true, laidLooks := .later }
def EntityGivesCardSaid : Prop := Claim7.holds Tryz.pinned (.plain (OpenSpec.ofChange entityGivesSpec)) entityGivesCard

/-- THE TIED CARD OF 'lapwinglaw14.EntityTwice'. -/
def entityTwiceCard : Claim7 := { stood := { row := entityTwiceRow, standIns := [], harness := (true, "39a64e849c75d00d5120ece337b298a9512a00329f0ef038900fdafdc34b2b22"), looks := false }, kinds := [], alts := [], laidByText := true, laidKinds := [.data], laidTests := true, laidLooks := .later }
def EntityTwiceCardSaid : Prop := Claim7.holds Tryz.pinned (.plain (OpenSpec.ofChange entityTwiceSpec)) entityTwiceCard

/-- THE TIED CARD OF 'lapwinglaw14.EntityDeaf'. -/
def entityDeafCard : Claim7 := { stood := { row := entityDeafRow, standIns := [], harness := (true, "39a64e849c75d00d5120ece337b298a9512a00329f0ef038900fdafdc34b2b22"), looks := false }, kinds := [], alts := [], laidByText := true, laidKinds := [.data], laidTests := true, laidLooks := .later }
def EntityDeafCardSaid : Prop := Claim7.holds Tryz.pinned (.plain (OpenSpec.ofChange entityDeafSpec)) entityDeafCard

/-- THE TIED CARD OF 'lapwinglaw14.EntityGone'. -/
def entityGoneCard : Claim7 := { stood := { row := entityGoneRow, standIns := [], harness := (true, "39a64e849c75d00d5120ece337b298a9512a00329f0ef038900fdafdc34b2b22"), looks := false }, kinds := [], alts := [], laidByText := true, laidKinds := [.data], laidTests := true, laidLooks := .later }
def EntityGoneCardSaid : Prop := Claim7.holds Tryz.pinned (.plain (OpenSpec.ofChange entityGoneSpec)) entityGoneCard

/-- THE TIED CARD OF 'lapwinglaw14.EntitySends'. -/
def entitySendsCard : Claim7 := { stood := { row := entitySendsRow, standIns := [], harness := (true, "39a64e849c75d00d5120ece337b298a9512a00329f0ef038900fdafdc34b2b22"), looks := false }, kinds := [], alts := [], laidByText := true, laidKinds := [.widerDeep, .data], laidTests := true, laidLooks := .later }
def EntitySendsCardSaid : Prop := Claim7.holds Tryz.pinned (.plain (OpenSpec.ofChange entitySendsSpec)) entitySendsCard

/-- THE SECOND FORM's CARD OF 'lapwinglaw14.EntityPlays'. -/
def entityPlaysUptoCard : Claim7 := { stood := { row := entityPlaysUptoRow, standIns := [], harness := (true, "39a64e849c75d00d5120ece337b298a9512a00329f0ef038900fdafdc34b2b22"), looks := false }, kinds := [], alts := [], laidByText := true, laidKinds := [.data], laidTests := true, laidLooks := .later }
def EntityPlaysUptoCardSaid : Prop := Claim7.holds Tryz.pinned (.plain (OpenSpec.upto entityPlaysSpec)) entityPlaysUptoCard

/-- THE SECOND FORM's CARD OF 'lapwinglaw14.EntityTells'. -/
def entityTellsUptoCard : Claim7 := { stood := { row := entityTellsUptoRow, standIns := [], harness := (true, "39a64e849c75d00d5120ece337b298a9512a00329f0ef038900fdafdc34b2b22"), looks := false }, kinds := [], alts := [], laidByText := true, laidKinds := [.data], laidTests := true, laidLooks := .later }
def EntityTellsUptoCardSaid : Prop := Claim7.holds Tryz.pinned (.plain (OpenSpec.upto entityTellsSpec)) entityTellsUptoCard

/-- THE SECOND FORM's CARD OF 'lapwinglaw14.EntityGives'. -/
def entityGivesUptoCard : Claim7 := { stood := { row := entityGivesUptoRow, standIns := [], harness := (true, "39a64e849c75d00d5120ece337b298a9512a00329f0ef038900fdafdc34b2b22"), looks := false }, kinds := [], alts := [], laidByText := true, laidKinds := [.data], laidTests := true, laidLooks := .later }
def EntityGivesUptoCardSaid : Prop := Claim7.holds Tryz.pinned (.plain (OpenSpec.upto entityGivesSpec)) entityGivesUptoCard

/-- THE SECOND FORM's CARD OF 'lapwinglaw14.EntityTwice'. -/
def entityTwiceUptoCard : Claim7 := { stood := { row := entityTwiceUptoRow, standIns := [], harness := (true, "39a64e849c75d00d5120ece337b298a9512a00329f0ef038900fdafdc34b2b22"), looks := false }, kinds := [], alts := [], laidByText := true, laidKinds := [.data], laidTests := true, laidLooks := .later }
def EntityTwiceUptoCardSaid : Prop := Claim7.holds Tryz.pinned (.plain (OpenSpec.upto entityTwiceSpec)) entityTwiceUptoCard

/-- THE SECOND FORM's CARD OF 'lapwinglaw14.EntityDeaf'. -/
def entityDeafUptoCard : Claim7 := { stood := { row := entityDeafUptoRow, standIns := [], harness := (true, "39a64e849c75d00d5120ece337b298a9512a00329f0ef038900fdafdc34b2b22"), looks := false }, kinds := [], alts := [], laidByText := true, laidKinds := [.data], laidTests := true, laidLooks := .later }
def EntityDeafUptoCardSaid : Prop := Claim7.holds Tryz.pinned (.plain (OpenSpec.upto entityDeafSpec)) entityDeafUptoCard

/-- THE SECOND FORM's CARD OF 'lapwinglaw14.EntityGone'. -/
def entityGoneUptoCard : Claim7 := { stood := { row := entityGoneUptoRow, standIns := [], harness := (true, "39a64e849c75d00d5120ece337b298a9512a00329f0ef038900fdafdc34b2b22"), looks := false }, kinds := [], alts := [], laidByText := true, laidKinds := [.data], laidTests := true, laidLooks := .later }
def EntityGoneUptoCardSaid : Prop := Claim7.holds Tryz.pinned (.plain (OpenSpec.upto entityGoneSpec)) entityGoneUptoCard

/-- THE SECOND FORM's CARD OF 'lapwinglaw14.EntitySends'. -/
def entitySendsUptoCard : Claim7 := { stood := { row := entitySendsUptoRow, standIns := [], harness := (true, "39a64e849c75d00d5120ece337b298a9512a00329f0ef038900fdafdc34b2b22"), looks := false }, kinds := [], alts := [], laidByText := true, laidKinds := [.widerDeep, .data], laidTests := true, laidLooks := .later }
def EntitySendsUptoCardSaid : Prop := Claim7.holds Tryz.pinned (.plain (OpenSpec.upto entitySendsSpec)) entitySendsUptoCard
end Rows
end Go.Proofs.YtoophfokbioaaaaGreatDoor
