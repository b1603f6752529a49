/- Opened as often as one likes, by whatever key it was made, it is as it was; made anew it is empty. It holds for every input; there are no conditions. -/
import Derived.Shelf.SlIterI.Nil
import Derived.Shelf.SortM.Plain
import Derived.Shelf.SortM.SortNone
import Derived.Ground.GgzProg
import Derived.Ground.SlgmProg
import Derived.Shelf.SlMaps.Clone
import Derived.Ground.SlmcProg
import Derived.Test.YtpbfapbajmdlkaaGreatProg
namespace Go.Proofs
open Go.Shelf
def Tryz.cloneB_ren : Go.Shelf.Ren := ⟨fun | 5 => 77 | 7 => 130 | n => n, fun | 23 => 141 | 25 => 9 | 3 => 25 | 4 => 4 | 20 => 20 | n => n, fun | n => n⟩
theorem Tryz.cloneB : Go.Proofs.SlLaysW.n5 Tryz.prog Tryz.cloneB_ren := {
  mixed := by kernel_rfl
  f5 := ⟨Tryz.f77.name, by decide, Tryz.func77.trans (congrArg some (by kernel_rfl))⟩
  f7 := Tryz.func130.trans (congrArg some (by kernel_rfl))
  t4 := Tryz.underlying4
  a4 := Tryz.isAgg4
  z4 := Tryz.sizeOf4
  v4 := Tryz.zeroValue4
  t20 := Tryz.underlying20
  a20 := Tryz.isAgg20
  z20 := Tryz.sizeOf20
  v20 := Tryz.zeroValue20
  t23 := Tryz.underlying141
  a23 := Tryz.isAgg141
  z23 := Tryz.sizeOf141
  v23 := Tryz.zeroValue141 }
end Go.Proofs

