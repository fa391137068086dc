/- TerminalTime: closed facts of its row, each reckoned for itself. -/
import Derived.Test.YtnnahljdhdippaaGreatDoorRows
import Derived.Test.YtnnahljdhdippaaGreatDoorCards
import Derived.Test.YtnnahljdhdippaaGreatDoorTie
import Derived.Test.YtnnahljdhdippaaGreatDoorChecked
import Derived.ChangeSame
import Derived.ChangeVars
import Derived.JoinedOf
import Derived.RowKit
import Derived.RowKitTokens
import Derived.LaidLaws
import Derived.Stop.Joined
import Derived.SevenTiedAt
namespace Go.Proofs.YtnnahljdhdippaaGreatDoor.TerminalTime
theorem j1 : (Rows.terminalTimeRow.inPlace == Tryz.pinned.checked.prog.inPlace 9) = true := by kernel_rfl
theorem j2 : (Rows.terminalTimeRow.unfollowed == Tryz.pinned.checked.prog.unfollowed 9) = true := by kernel_rfl
theorem j3 : (Rows.terminalTimeRow.recurses == Tryz.pinned.checked.prog.recurses 9) = true := by kernel_rfl
theorem j4 : (Rows.terminalTimeRow.named == Tryz.pinned.checked.prog.varsNamed 9) = true := by kernel_rfl
theorem facts : joinedFacts Tryz.pinned.checked.prog 9 Tryz.f9 Rows.terminalTimeSpec Rows.terminalTimeRow = true := by
  unfold joinedFacts
  rw [j1, j2, j3, j4]
  kernel_rfl
theorem p1 : Rows.terminalTimeRow.wfByText (OpenSpec.ofChange Rows.terminalTimeSpec) = true := by kernel_rfl
theorem p2 : Tryz.pinned.checked.prog.mainIs = some ((true, "9215b824afe1c9ce7028b578374aad7ada32449922bc32e046094bc967d3a4d2").1, (true, "9215b824afe1c9ce7028b578374aad7ada32449922bc32e046094bc967d3a4d2").2.toList) := by kernel_rfl
theorem p3 : false = Tryz.pinned.checked.prog.looks [] := by kernel_rfl
theorem p4 : false = Rows.terminalTimeRow.goesBy Tryz.pinned.checked.prog := by kernel_rfl
end Go.Proofs.YtnnahljdhdippaaGreatDoor.TerminalTime
