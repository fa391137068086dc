/-
  DERIVED. GIVEN WITH THE SEED: THE CARDS: each row of YtjcldoejpldcmaaGreatDoorRows.lean that lists a variable, with what it lists TIED to the program's text (the seventh form; the later family's looks); each row that meets fmt, with fmt's text TOLD by the authors' own Lean function (tested against real Go, not proved from fmt's source: count such statements apart). THE CARD IS WHAT COUNTS. Prove the row's statement (the work); the ties are given (YtjcldoejpldcmaaGreatDoorTie.lean); close each card by the builder's one call (the guide's Derived/Test/ToyasCard.lean, 'card_holds'). Laid BY PROGRAM, IN A SANDBOX (cutbox-door.mjs). By AI agents, Wed Nov 11 2026. No macro, syntax, notation, axiom, sorry.
-/
import Derived.Test.YtjcldoejpldcmaaGreatDoorRows
import GoSem.ClaimSeven
namespace Go.Proofs.YtjcldoejpldcmaaGreatDoor
namespace Rows

/-- THE TIED CARD OF 'lapwinglaw18.NetworkGives'. -/
def networkGivesCard : Claim7 := { stood := { row := networkGivesRow, standIns := [], harness := (true, "3707e712bdd0373eae479a4b6953a233c8011c3ab1b107addcbbe75dab654cc9"), looks := false }, kinds := [], alts := [], laidByText := true, laidKinds := [.data, .widerDeep, .data, .data, .pinned], laidTests := true, laidLooks := .later }
def NetworkGivesCardSaid : Prop := Claim7.holds Tryz.pinned (.plain (OpenSpec.ofChange networkGivesSpec)) networkGivesCard

/-- THE TIED CARD OF 'lapwinglaw18.NetworkChecks'. -/
def networkChecksCard : Claim7 := { stood := { row := networkChecksRow, standIns := [], harness := (true, "3707e712bdd0373eae479a4b6953a233c8011c3ab1b107addcbbe75dab654cc9"), looks := false }, kinds := [], alts := [], laidByText := true, laidKinds := [.data, .widerDeep, .data, .data, .pinned], laidTests := true, laidLooks := .later }
def NetworkChecksCardSaid : Prop := Claim7.holds Tryz.pinned (.plain (OpenSpec.ofChange networkChecksSpec)) networkChecksCard

/-- THE TIED CARD OF 'lapwinglaw18.NetworkDeaf'. -/
def networkDeafCard : Claim7 := { stood := { row := networkDeafRow, standIns := [], harness := (true, "3707e712bdd0373eae479a4b6953a233c8011c3ab1b107addcbbe75dab654cc9"), looks := false }, kinds := [], alts := [], laidByText := true, laidKinds := [.data, .widerDeep, .data, .data, .pinned], laidTests := true, laidLooks := .later }
def NetworkDeafCardSaid : Prop := Claim7.holds Tryz.pinned (.plain (OpenSpec.ofChange networkDeafSpec)) networkDeafCard

/-- THE TIED CARD OF 'lapwinglaw18.NetworkPlays'. -/
def networkPlaysCard : Claim7 := { stood := { row := networkPlaysRow, standIns := [], harness := (true, "3707e712bdd0373eae479a4b6953a233c8011c3ab1b107addcbbe75dab654cc9"), looks := false }, kinds := [], alts := [], laidByText := true, laidKinds := [.data, .widerDeep, .data, .data, .pinned], laidTests := true, laidLooks := .later }
def NetworkPlaysCardSaid : Prop := Claim7.holds Tryz.pinned (.plain (OpenSpec.ofChange networkPlaysSpec)) networkPlaysCard

/-- THE TIED CARD OF 'lapwinglaw18.NetworkNil'. -/
def networkNilCard : Claim7 := { stood := { row := networkNilRow, standIns := [], harness := (true, "3707e712bdd0373eae479a4b6953a233c8011c3ab1b107addcbbe75dab654cc9"), looks := false }, kinds := [], alts := [], laidByText := true, laidKinds := [.data, .widerDeep, .data, .data, .pinned], laidTests := true, laidLooks := .later }
def NetworkNilCardSaid : Prop := Claim7.holds Tryz.pinned (.plain (OpenSpec.ofChange networkNilSpec)) networkNilCard

/-- THE TIED CARD OF 'lapwinglaw18.NetworkTime'. -/
def networkTimeCard : Claim7 := { stood := { row := networkTimeRow, standIns := [], harness := (true, "3707e712bdd0373eae479a4b6953a233c8011c3ab1b107addcbbe75dab654cc9"), looks := false }, kinds := [], alts := [], laidByText := true, laidKinds := [.data, .widerDeep, .data, .data, .pinned], laidTests := true, laidLooks := .later }
def NetworkTimeCardSaid : Prop := Claim7.holds Tryz.pinned (.plain (OpenSpec.ofChange networkTimeSpec)) networkTimeCard

/-- THE SECOND FORM's CARD OF 'lapwinglaw18.NetworkGives'. -/
def networkGivesUptoCard : Claim7 := { stood := { row := networkGivesUptoRow, standIns := [], harness := (true, "3707e712bdd0373eae479a4b6953a233c8011c3ab1b107addcbbe75dab654cc9"), looks := false }, kinds := [], alts := [], laidByText := true, laidKinds := [.data, .widerDeep, .data, .data, .pinned], laidTests := true, laidLooks := .later }
def NetworkGivesUptoCardSaid : Prop := Claim7.holds Tryz.pinned (.plain (OpenSpec.upto networkGivesSpec)) networkGivesUptoCard

/-- THE SECOND FORM's CARD OF 'lapwinglaw18.NetworkChecks'. -/
def networkChecksUptoCard : Claim7 := { stood := { row := networkChecksUptoRow, standIns := [], harness := (true, "3707e712bdd0373eae479a4b6953a233c8011c3ab1b107addcbbe75dab654cc9"), looks := false }, kinds := [], alts := [], laidByText := true, laidKinds := [.data, .widerDeep, .data, .data, .pinned], laidTests := true, laidLooks := .later }
def NetworkChecksUptoCardSaid : Prop := Claim7.holds Tryz.pinned (.plain (OpenSpec.upto networkChecksSpec)) networkChecksUptoCard

/-- THE SECOND FORM's CARD OF 'lapwinglaw18.NetworkDeaf'. -/
def networkDeafUptoCard : Claim7 := { stood := { row := networkDeafUptoRow, standIns := [], harness := (true, "3707e712bdd0373eae479a4b6953a233c8011c3ab1b107addcbbe75dab654cc9"), looks := false }, kinds := [], alts := [], laidByText := true, laidKinds := [.data, .widerDeep, .data, .data, .pinned], laidTests := true, laidLooks := .later }
def NetworkDeafUptoCardSaid : Prop := Claim7.holds Tryz.pinned (.plain (OpenSpec.upto networkDeafSpec)) networkDeafUptoCard

/-- THE SECOND FORM's CARD OF 'lapwinglaw18.NetworkPlays'. -/
def networkPlaysUptoCard : Claim7 := { stood := { row := networkPlaysUptoRow, standIns := [], harness := (true, "3707e712bdd0373eae479a4b6953a233c8011c3ab1b107addcbbe75dab654cc9"), looks := false }, kinds := [], alts := [], laidByText := true, laidKinds := [.data, .widerDeep, .data, .data, .pinned], laidTests := true, laidLooks := .later }
def NetworkPlaysUptoCardSaid : Prop := Claim7.holds Tryz.pinned (.plain (OpenSpec.upto networkPlaysSpec)) networkPlaysUptoCard

/-- THE SECOND FORM's CARD OF 'lapwinglaw18.NetworkNil'. -/
def networkNilUptoCard : Claim7 := { stood := { row := networkNilUptoRow, standIns := [], harness := (true, "3707e712bdd0373eae479a4b6953a233c8011c3ab1b107addcbbe75dab654cc9"), looks := false }, kinds := [], alts := [], laidByText := true, laidKinds := [.data, .widerDeep, .data, .data, .pinned], laidTests := true, laidLooks := .later }
def NetworkNilUptoCardSaid : Prop := Claim7.holds Tryz.pinned (.plain (OpenSpec.upto networkNilSpec)) networkNilUptoCard

/-- THE SECOND FORM's CARD OF 'lapwinglaw18.NetworkTime'. -/
def networkTimeUptoCard : Claim7 := { stood := { row := networkTimeUptoRow, standIns := [], harness := (true, "3707e712bdd0373eae479a4b6953a233c8011c3ab1b107addcbbe75dab654cc9"), looks := false }, kinds := [], alts := [], laidByText := true, laidKinds := [.data, .widerDeep, .data, .data, .pinned], laidTests := true, laidLooks := .later }
def NetworkTimeUptoCardSaid : Prop := Claim7.holds Tryz.pinned (.plain (OpenSpec.upto networkTimeSpec)) networkTimeUptoCard
end Rows
end Go.Proofs.YtjcldoejpldcmaaGreatDoor
