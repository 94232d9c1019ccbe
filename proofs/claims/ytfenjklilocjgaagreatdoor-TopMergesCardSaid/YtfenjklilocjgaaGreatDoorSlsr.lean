/- A function of the library, laid. No condition of its own. -/
import Derived.Shelf.SlLaysO
import Derived.Shelf.SlSorted.Search
import Derived.Ground.SlsoProg
import Derived.Test.YtfenjklilocjgaaGreatDoorProg
namespace Go.Proofs
open Go.Shelf
def Tryz.search_ren : Go.Shelf.Ren := ⟨fun | 16 => 34 | n => n, fun | 3 => 3 | 35 => 86 | 4 => 4 | 38 => 81 | n => n, fun | n => n⟩
theorem Tryz.search : Go.Proofs.SlLaysO.n16 Tryz.prog Tryz.search_ren := {
  mixed := by kernel_rfl
  f16 := Tryz.func34.trans (congrArg some (by kernel_rfl))
  t3 := Tryz.underlying3
  a3 := Tryz.isAgg3
  z3 := Tryz.sizeOf3
  v3 := Tryz.zeroValue3
  t4 := Tryz.underlying4
  a4 := Tryz.isAgg4
  z4 := Tryz.sizeOf4
  v4 := Tryz.zeroValue4
  t35 := Tryz.underlying86
  a35 := Tryz.isAgg86
  z35 := Tryz.sizeOf86
  v35 := Tryz.zeroValue86
  t38 := Tryz.underlying81
  a38 := Tryz.isAgg81
  z38 := Tryz.sizeOf81
  v38 := Tryz.zeroValue81 }
end Go.Proofs
