/- NetworkChecks: closed facts of its row, each reckoned for itself. -/
import Derived.Test.YtjcldoejpldcmaaGreatDoorRows
import Derived.Test.YtjcldoejpldcmaaGreatDoorCards
import Derived.Test.YtjcldoejpldcmaaGreatDoorTie
import Derived.Test.YtjcldoejpldcmaaGreatDoorChecked
import Derived.ChangeSame
import Derived.ChangeVars
import Derived.JoinedOf
import Derived.RowKit
import Derived.RowKitTokens
import Derived.LaidLaws
import Derived.Stop.Joined
import Derived.SevenTiedAt
namespace Go.Proofs.YtjcldoejpldcmaaGreatDoor.NetworkChecks
theorem j1 : (Rows.networkChecksRow.inPlace == Tryz.pinned.checked.prog.inPlace 4) = true := by kernel_rfl
theorem j2 : (Rows.networkChecksRow.unfollowed == Tryz.pinned.checked.prog.unfollowed 4) = true := by kernel_rfl
theorem j3 : (Rows.networkChecksRow.recurses == Tryz.pinned.checked.prog.recurses 4) = true := by kernel_rfl
theorem j4 : (Rows.networkChecksRow.named == Tryz.pinned.checked.prog.varsNamed 4) = true := by kernel_rfl
theorem facts : joinedFacts Tryz.pinned.checked.prog 4 Tryz.f4 Rows.networkChecksSpec Rows.networkChecksRow = true := by
  unfold joinedFacts
  rw [j1, j2, j3, j4]
  kernel_rfl
theorem p1 : Rows.networkChecksRow.wfByText (OpenSpec.ofChange Rows.networkChecksSpec) = true := by kernel_rfl
theorem p2 : Tryz.pinned.checked.prog.mainIs = some ((true, "3707e712bdd0373eae479a4b6953a233c8011c3ab1b107addcbbe75dab654cc9").1, (true, "3707e712bdd0373eae479a4b6953a233c8011c3ab1b107addcbbe75dab654cc9").2.toList) := by kernel_rfl
theorem p3 : false = Tryz.pinned.checked.prog.looks [] := by kernel_rfl
theorem p4 : false = Rows.networkChecksRow.goesBy Tryz.pinned.checked.prog := by kernel_rfl
end Go.Proofs.YtjcldoejpldcmaaGreatDoor.NetworkChecks
