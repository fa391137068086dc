/- A contract of the shelf, laid at this program (written by the kit's lay-plain). -/
import Derived.Shelf.Slices.CompactI
import Derived.Ground.Names2Prog
import Derived.Test.YtkcclijckpbobaaProg
namespace Go.Proofs.Ytkcclijckpbobaa
open Go.Shelf
def layCompact_ren : Go.Shelf.Ren := ⟨fun | 20 => 27 | n => n, fun | 22 => 35 | 3 => 3 | 4 => 4 | 0 => 0 | n => n, fun | n => n⟩
theorem layCompact : Go.Proofs.Lays2.n20 Try.prog layCompact_ren := {
  mixed := by kernel_rfl
  f20 := Try.func27.trans (congrArg some (by kernel_rfl))
  t0 := Try.underlying0
  a0 := Try.isAgg0
  z0 := Try.sizeOf0
  v0 := Try.zeroValue0
  t3 := Try.underlying3
  a3 := Try.isAgg3
  z3 := Try.sizeOf3
  v3 := Try.zeroValue3
  t4 := Try.underlying4
  a4 := Try.isAgg4
  z4 := Try.sizeOf4
  v4 := Try.zeroValue4
  t22 := Try.underlying35
  a22 := Try.isAgg35
  z22 := Try.sizeOf35
  v22 := Try.zeroValue35
  i3 := by kernel_rfl }
end Go.Proofs.Ytkcclijckpbobaa
