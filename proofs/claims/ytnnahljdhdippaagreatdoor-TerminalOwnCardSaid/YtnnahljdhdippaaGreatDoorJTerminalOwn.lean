/- TerminalOwn: closed facts of its row, each reckoned for itself. -/
import Derived.Test.YtnnahljdhdippaaGreatDoorRows
import Derived.Test.YtnnahljdhdippaaGreatDoorCards
import Derived.Test.YtnnahljdhdippaaGreatDoorTie
import Derived.Test.YtnnahljdhdippaaGreatDoorChecked
import Derived.ChangeSame
import Derived.ChangeVars
import Derived.JoinedOf
import Derived.RowKit
import Derived.RowKitTokens
import Derived.LaidLaws
import Derived.Stop.Joined
import Derived.SevenTiedAt
namespace Go.Proofs.YtnnahljdhdippaaGreatDoor.TerminalOwn
theorem j1 : (Rows.terminalOwnRow.inPlace == Tryz.pinned.checked.prog.inPlace 3) = true := by kernel_rfl
theorem j2 : (Rows.terminalOwnRow.unfollowed == Tryz.pinned.checked.prog.unfollowed 3) = true := by kernel_rfl
theorem j3 : (Rows.terminalOwnRow.recurses == Tryz.pinned.checked.prog.recurses 3) = true := by kernel_rfl
theorem j4 : (Rows.terminalOwnRow.named == Tryz.pinned.checked.prog.varsNamed 3) = true := by kernel_rfl
theorem facts : joinedFacts Tryz.pinned.checked.prog 3 Tryz.f3 Rows.terminalOwnSpec Rows.terminalOwnRow = true := by
  unfold joinedFacts
  rw [j1, j2, j3, j4]
  kernel_rfl
theorem p1 : Rows.terminalOwnRow.wfByText (OpenSpec.ofChange Rows.terminalOwnSpec) = true := by kernel_rfl
theorem p2 : Tryz.pinned.checked.prog.mainIs = some ((true, "9215b824afe1c9ce7028b578374aad7ada32449922bc32e046094bc967d3a4d2").1, (true, "9215b824afe1c9ce7028b578374aad7ada32449922bc32e046094bc967d3a4d2").2.toList) := by kernel_rfl
theorem p3 : false = Tryz.pinned.checked.prog.looks [] := by kernel_rfl
theorem p4 : false = Rows.terminalOwnRow.goesBy Tryz.pinned.checked.prog := by kernel_rfl
end Go.Proofs.YtnnahljdhdippaaGreatDoor.TerminalOwn
