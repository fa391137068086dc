/- NetworkNil: closed facts of its row, each reckoned for itself. -/
import Derived.Test.YtjcldoejpldcmaaGreatDoorRows
import Derived.Test.YtjcldoejpldcmaaGreatDoorCards
import Derived.Test.YtjcldoejpldcmaaGreatDoorTie
import Derived.Test.YtjcldoejpldcmaaGreatDoorChecked
import Derived.ChangeSame
import Derived.ChangeVars
import Derived.JoinedOf
import Derived.RowKit
import Derived.RowKitTokens
import Derived.LaidLaws
import Derived.Stop.Joined
import Derived.SevenTiedAt
namespace Go.Proofs.YtjcldoejpldcmaaGreatDoor.NetworkNil
theorem j1 : (Rows.networkNilRow.inPlace == Tryz.pinned.checked.prog.inPlace 7) = true := by kernel_rfl
theorem j2 : (Rows.networkNilRow.unfollowed == Tryz.pinned.checked.prog.unfollowed 7) = true := by kernel_rfl
theorem j3 : (Rows.networkNilRow.recurses == Tryz.pinned.checked.prog.recurses 7) = true := by kernel_rfl
theorem j4 : (Rows.networkNilRow.named == Tryz.pinned.checked.prog.varsNamed 7) = true := by kernel_rfl
theorem facts : joinedFacts Tryz.pinned.checked.prog 7 Tryz.f7 Rows.networkNilSpec Rows.networkNilRow = true := by
  unfold joinedFacts
  rw [j1, j2, j3, j4]
  kernel_rfl
theorem p1 : Rows.networkNilRow.wfByText (OpenSpec.ofChange Rows.networkNilSpec) = true := by kernel_rfl
theorem p2 : Tryz.pinned.checked.prog.mainIs = some ((true, "3707e712bdd0373eae479a4b6953a233c8011c3ab1b107addcbbe75dab654cc9").1, (true, "3707e712bdd0373eae479a4b6953a233c8011c3ab1b107addcbbe75dab654cc9").2.toList) := by kernel_rfl
theorem p3 : false = Tryz.pinned.checked.prog.looks [] := by kernel_rfl
theorem p4 : false = Rows.networkNilRow.goesBy Tryz.pinned.checked.prog := by kernel_rfl
end Go.Proofs.YtjcldoejpldcmaaGreatDoor.NetworkNil
