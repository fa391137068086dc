/- A contract of the shelf, laid at this program (written by the kit's lay-plain). -/
import Derived.Shelf.SlIterI.Nil
import Derived.Ground.GgzProg
import Derived.Test.YtbnbknabedgpcaaProg
namespace Go.Proofs.Ytbnbknabedgpcaa
open Go.Shelf
def laySorted_ren : Go.Shelf.Ren := ⟨fun | 6 => 54 | 8 => 74 | 9 => 75 | 11 => 99 | 13 => 71 | 12 => 100 | 23 => 97 | 24 => 98 | 14 => 106 | 15 => 107 | 16 => 108 | 17 => 109 | 18 => 110 | 19 => 111 | 20 => 112 | 21 => 113 | 22 => 114 | 25 => 116 | 26 => 102 | 27 => 103 | 28 => 117 | 29 => 118 | 30 => 73 | 31 => 119 | n => n, fun | 26 => 3 | 28 => 116 | 24 => 22 | 0 => 0 | 3 => 3 | 37 => 139 | 48 => 167 | 50 => 133 | 4 => 4 | 40 => 160 | 39 => 159 | 45 => 164 | 5 => 5 | 9 => 9 | 51 => 171 | 55 => 175 | 57 => 183 | 58 => 155 | 33 => 120 | n => n, fun | n => n⟩
theorem laySorted : Go.Proofs.SlLaysZI.n6 Try.prog laySorted_ren := {
  mixed := by kernel_rfl
  f6 := ⟨Try.f54.name, by decide, Try.func54.trans (congrArg some (by kernel_rfl))⟩
  f8 := ⟨Try.f74.name, by decide, Try.func74.trans (congrArg some (by kernel_rfl))⟩
  f11 := ⟨Try.f99.name, by decide, Try.func99.trans (congrArg some (by kernel_rfl))⟩
  t0 := Try.underlying0
  a0 := Try.isAgg0
  z0 := Try.sizeOf0
  v0 := Try.zeroValue0
  t24 := Try.underlying22
  a24 := Try.isAgg22
  z24 := Try.sizeOf22
  v24 := Try.zeroValue22
  t26 := Try.underlying3
  a26 := Try.isAgg3
  z26 := Try.sizeOf3
  v26 := Try.zeroValue3
  t28 := Try.underlying116
  a28 := Try.isAgg116
  z28 := Try.sizeOf116
  v28 := Try.zeroValue116
  i26 := by kernel_rfl }
end Go.Proofs.Ytbnbknabedgpcaa
