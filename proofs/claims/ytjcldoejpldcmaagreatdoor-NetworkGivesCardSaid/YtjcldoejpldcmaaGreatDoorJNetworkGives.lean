/- NetworkGives: closed facts of its row, each reckoned for itself. -/
import Derived.Test.YtjcldoejpldcmaaGreatDoorRows
import Derived.Test.YtjcldoejpldcmaaGreatDoorCards
import Derived.Test.YtjcldoejpldcmaaGreatDoorTie
import Derived.Test.YtjcldoejpldcmaaGreatDoorChecked
import Derived.ChangeSame
import Derived.ChangeVars
import Derived.JoinedOf
import Derived.RowKit
import Derived.RowKitTokens
import Derived.LaidLaws
import Derived.Stop.Joined
import Derived.SevenTiedAt
namespace Go.Proofs.YtjcldoejpldcmaaGreatDoor.NetworkGives
theorem j1 : (Rows.networkGivesRow.inPlace == Tryz.pinned.checked.prog.inPlace 3) = true := by kernel_rfl
theorem j2 : (Rows.networkGivesRow.unfollowed == Tryz.pinned.checked.prog.unfollowed 3) = true := by kernel_rfl
theorem j3 : (Rows.networkGivesRow.recurses == Tryz.pinned.checked.prog.recurses 3) = true := by kernel_rfl
theorem j4 : (Rows.networkGivesRow.named == Tryz.pinned.checked.prog.varsNamed 3) = true := by kernel_rfl
theorem facts : joinedFacts Tryz.pinned.checked.prog 3 Tryz.f3 Rows.networkGivesSpec Rows.networkGivesRow = true := by
  unfold joinedFacts
  rw [j1, j2, j3, j4]
  kernel_rfl
theorem p1 : Rows.networkGivesRow.wfByText (OpenSpec.ofChange Rows.networkGivesSpec) = true := by kernel_rfl
theorem p2 : Tryz.pinned.checked.prog.mainIs = some ((true, "3707e712bdd0373eae479a4b6953a233c8011c3ab1b107addcbbe75dab654cc9").1, (true, "3707e712bdd0373eae479a4b6953a233c8011c3ab1b107addcbbe75dab654cc9").2.toList) := by kernel_rfl
theorem p3 : false = Tryz.pinned.checked.prog.looks [] := by kernel_rfl
theorem p4 : false = Rows.networkGivesRow.goesBy Tryz.pinned.checked.prog := by kernel_rfl
end Go.Proofs.YtjcldoejpldcmaaGreatDoor.NetworkGives
