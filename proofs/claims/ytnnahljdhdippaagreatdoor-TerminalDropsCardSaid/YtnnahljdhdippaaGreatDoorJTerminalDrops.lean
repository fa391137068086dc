/- TerminalDrops: closed facts of its row, each reckoned for itself. -/
import Derived.Test.YtnnahljdhdippaaGreatDoorRows
import Derived.Test.YtnnahljdhdippaaGreatDoorCards
import Derived.Test.YtnnahljdhdippaaGreatDoorTie
import Derived.Test.YtnnahljdhdippaaGreatDoorChecked
import Derived.ChangeSame
import Derived.ChangeVars
import Derived.JoinedOf
import Derived.RowKit
import Derived.RowKitTokens
import Derived.LaidLaws
import Derived.Stop.Joined
import Derived.SevenTiedAt
namespace Go.Proofs.YtnnahljdhdippaaGreatDoor.TerminalDrops
theorem j1 : (Rows.terminalDropsRow.inPlace == Tryz.pinned.checked.prog.inPlace 7) = true := by kernel_rfl
theorem j2 : (Rows.terminalDropsRow.unfollowed == Tryz.pinned.checked.prog.unfollowed 7) = true := by kernel_rfl
theorem j3 : (Rows.terminalDropsRow.recurses == Tryz.pinned.checked.prog.recurses 7) = true := by kernel_rfl
theorem j4 : (Rows.terminalDropsRow.named == Tryz.pinned.checked.prog.varsNamed 7) = true := by kernel_rfl
theorem facts : joinedFacts Tryz.pinned.checked.prog 7 Tryz.f7 Rows.terminalDropsSpec Rows.terminalDropsRow = true := by
  unfold joinedFacts
  rw [j1, j2, j3, j4]
  kernel_rfl
theorem p1 : Rows.terminalDropsRow.wfByText (OpenSpec.ofChange Rows.terminalDropsSpec) = true := by kernel_rfl
theorem p2 : Tryz.pinned.checked.prog.mainIs = some ((true, "9215b824afe1c9ce7028b578374aad7ada32449922bc32e046094bc967d3a4d2").1, (true, "9215b824afe1c9ce7028b578374aad7ada32449922bc32e046094bc967d3a4d2").2.toList) := by kernel_rfl
theorem p3 : false = Tryz.pinned.checked.prog.looks [] := by kernel_rfl
theorem p4 : false = Rows.terminalDropsRow.goesBy Tryz.pinned.checked.prog := by kernel_rfl
end Go.Proofs.YtnnahljdhdippaaGreatDoor.TerminalDrops
