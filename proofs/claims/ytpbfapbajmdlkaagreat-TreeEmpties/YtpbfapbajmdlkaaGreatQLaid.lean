/- All pairs put, all taken away, in whatever order: an empty tree of one page; each on the way is one. It holds for every input; there are no conditions. -/
import Derived.Shelf.SlIterI.Nil
import Derived.Shelf.SortM.Plain
import Derived.Shelf.SortM.SortNone
import Derived.Ground.GgzProg
import Derived.Ground.SlgmProg
import Derived.Shelf.SlMaps.Clone
import Derived.Ground.SlmcProg
import Derived.Test.YtpbfapbajmdlkaaGreatProg
namespace Go.Proofs
open Go.Shelf
def Tryz.keysA_ren : Go.Shelf.Ren := ⟨fun | 7 => 118 | 10 => 177 | n => n, fun | 23 => 97 | 26 => 3 | 3 => 205 | 28 => 202 | 0 => 0 | 27 => 201 | 33 => 258 | 4 => 4 | n => n, fun | n => n⟩
def Tryz.sortedA_ren : Go.Shelf.Ren := ⟨fun | 6 => 117 | 8 => 175 | 9 => 176 | 11 => 224 | 13 => 132 | 12 => 225 | 23 => 187 | 24 => 188 | 14 => 249 | 15 => 250 | 16 => 251 | 17 => 252 | 18 => 253 | 19 => 254 | 20 => 255 | 21 => 256 | 22 => 257 | 25 => 270 | 26 => 227 | 27 => 228 | 28 => 271 | 29 => 272 | 30 => 273 | 31 => 283 | n => n, fun | 26 => 3 | 28 => 202 | 24 => 199 | 0 => 0 | 3 => 3 | 37 => 110 | 48 => 25 | 50 => 156 | 4 => 4 | 40 => 261 | 39 => 260 | 45 => 126 | 5 => 5 | 9 => 9 | 51 => 303 | 55 => 307 | 57 => 329 | 58 => 330 | 33 => 258 | n => n, fun | n => n⟩
def Tryz.sortA_ren : Go.Shelf.Ren := ⟨fun | 5 => 176 | 8 => 132 | 7 => 225 | 19 => 187 | 20 => 188 | 10 => 249 | 11 => 250 | 12 => 251 | 13 => 252 | 14 => 253 | 15 => 254 | 16 => 255 | 17 => 256 | 18 => 257 | 30 => 270 | 31 => 227 | 32 => 228 | 33 => 271 | 34 => 272 | 35 => 273 | 40 => 283 | n => n, fun | 23 => 199 | 25 => 3 | 3 => 3 | 32 => 110 | 22 => 199 | 0 => 0 | 44 => 25 | 46 => 156 | 4 => 4 | 36 => 261 | 35 => 260 | 41 => 126 | 5 => 5 | 9 => 9 | 53 => 303 | 57 => 307 | 63 => 329 | 64 => 330 | n => n, fun | n => n⟩
def Tryz.cloneA_ren : Go.Shelf.Ren := ⟨fun | 5 => 123 | 7 => 130 | n => n, fun | 23 => 164 | 25 => 25 | 3 => 4 | 4 => 4 | 20 => 20 | n => n, fun | n => n⟩
theorem Tryz.cloneA : Go.Proofs.SlLaysW.n5 Tryz.prog Tryz.cloneA_ren := {
  mixed := by kernel_rfl
  f5 := ⟨Tryz.f123.name, by decide, Tryz.func123.trans (congrArg some (by kernel_rfl))⟩
  f7 := Tryz.func130.trans (congrArg some (by kernel_rfl))
  t4 := Tryz.underlying4
  a4 := Tryz.isAgg4
  z4 := Tryz.sizeOf4
  v4 := Tryz.zeroValue4
  t20 := Tryz.underlying20
  a20 := Tryz.isAgg20
  z20 := Tryz.sizeOf20
  v20 := Tryz.zeroValue20
  t23 := Tryz.underlying164
  a23 := Tryz.isAgg164
  z23 := Tryz.sizeOf164
  v23 := Tryz.zeroValue164 }
end Go.Proofs

