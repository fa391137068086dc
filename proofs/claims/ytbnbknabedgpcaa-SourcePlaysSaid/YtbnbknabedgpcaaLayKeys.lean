/- A contract of the shelf, laid at this program (written by the kit's lay-plain). -/
import Derived.Shelf.SlIterI.Nil
import Derived.Ground.GgzProg
import Derived.Test.YtbnbknabedgpcaaProg
namespace Go.Proofs.Ytbnbknabedgpcaa
open Go.Shelf
def layKeys_ren : Go.Shelf.Ren := ⟨fun | 7 => 55 | 10 => 76 | n => n, fun | 23 => 101 | 26 => 3 | 3 => 91 | 28 => 116 | 0 => 0 | 27 => 115 | 33 => 120 | 4 => 4 | n => n, fun | n => n⟩
theorem layKeys : Go.Proofs.SlLaysZI.n7 Try.prog layKeys_ren := {
  mixed := by kernel_rfl
  f7 := ⟨Try.f55.name, by decide, Try.func55.trans (congrArg some (by kernel_rfl))⟩
  f10 := ⟨Try.f76.name, by decide, Try.func76.trans (congrArg some (by kernel_rfl))⟩
  t0 := Try.underlying0
  a0 := Try.isAgg0
  z0 := Try.sizeOf0
  v0 := Try.zeroValue0
  t4 := Try.underlying4
  a4 := Try.isAgg4
  z4 := Try.sizeOf4
  v4 := Try.zeroValue4
  t23 := Try.underlying101
  a23 := Try.isAgg101
  z23 := Try.sizeOf101
  v23 := Try.zeroValue101
  t26 := Try.underlying3
  a26 := Try.isAgg3
  z26 := Try.sizeOf3
  v26 := Try.zeroValue3
  t27 := Try.underlying115
  a27 := Try.isAgg115
  z27 := Try.sizeOf115
  v27 := Try.zeroValue115
  t28 := Try.underlying116
  a28 := Try.isAgg116
  z28 := Try.sizeOf116
  v28 := Try.zeroValue116
  t33 := Try.underlying120
  a33 := Try.isAgg120
  z33 := Try.sizeOf120
  v33 := Try.zeroValue120 }
end Go.Proofs.Ytbnbknabedgpcaa
