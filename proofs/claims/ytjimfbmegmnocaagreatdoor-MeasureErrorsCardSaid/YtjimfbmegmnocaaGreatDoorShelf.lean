/-
 DERIVED: THE SHELF's CONTRACTS AT THIS DUMP, IN PLAIN WORDS (tools/lay-plain.mjs out of 'TryzShelf.lean', which tools/lay-shelf.mjs wrote): THE SAME DECLARATIONS UNDER THE SAME NAMES: 'import', 'namespace', 'open', 'def', 'theorem' AND NOTHING ELSE: no command of the shelf's: FOR A HAND-IN. Each laying: the table of numbers ('.._ren') and one theorem, a field a fact of the dump's own or the kernel's comparison; each contract: ONE APPLICATION.
-/
import Derived.Shelf.Small.Bits
import Derived.Shelf.Small.Wraps
import Derived.Shelf.Strconv.Itoa0
import Derived.Shelf.Strconv.Itoa1
import Derived.Shelf.LaysM
import Derived.Shelf.Strconv.Itoa2
import Derived.Shelf.Strconv.Itoa3
import Derived.Test.YtjimfbmegmnocaaGreatDoorProg
set_option linter.unusedSimpArgs false
set_option linter.unusedVariables false
namespace Go.Proofs
open Go.Shelf
def Tryz.lays128_ren : Go.Shelf.Ren := ⟨fun | 128 => 75 | n => n, fun | 51 => 134 | 3 => 3 | 4 => 4 | 46 => 111 | 5 => 5 | 9 => 9 | n => n, fun | n => n⟩
theorem Tryz.lays128 : Go.Proofs.Lays.n128 Tryz.prog Tryz.lays128_ren := {
 mixed := by kernel_rfl
 f128 := Tryz.func75.trans (congrArg some (by kernel_rfl))
 t3 := Tryz.underlying3
 a3 := Tryz.isAgg3
 z3 := Tryz.sizeOf3
 v3 := Tryz.zeroValue3
 t4 := Tryz.underlying4
 a4 := Tryz.isAgg4
 z4 := Tryz.sizeOf4
 v4 := Tryz.zeroValue4
 t5 := Tryz.underlying5
 a5 := Tryz.isAgg5
 z5 := Tryz.sizeOf5
 v5 := Tryz.zeroValue5
 t9 := Tryz.underlying9
 a9 := Tryz.isAgg9
 z9 := Tryz.sizeOf9
 v9 := Tryz.zeroValue9
 t46 := Tryz.underlying111
 a46 := Tryz.isAgg111
 z46 := Tryz.sizeOf111
 v46 := Tryz.zeroValue111
 t51 := Tryz.underlying134
 a51 := Tryz.isAgg134
 z51 := Tryz.sizeOf134
 v51 := Tryz.zeroValue134 }
theorem Tryz.bits_Len32 (x : Int) (w : World) (h0 : 0 <= x) (h1 : x <= 4294967295) :
  Calls Tryz.prog 75 #[.int .u32 x] w fun e w' => e = .returned (.int .i64 (Lib.bitLen x.toNat)) /\ w' = w := Any.bits_Len32 Tryz.lays128 x w h0 h1
def Tryz.laysM171_ren : Go.Shelf.Ren := ⟨fun | 171 => 118 | 243 => 137 | 246 => 139 | 283 => 141 | 284 => 142 | 285 => 143 | 286 => 144 | 129 => 76 | 317 => 145 | 318 => 146 | 319 => 147 | 320 => 148 | 337 => 149 | 338 => 150 | n => n, fun | 3 => 3 | 9 => 9 | 2 => 2 | 4 => 4 | 171 => 204 | 0 => 0 | 53 => 115 | 37 => 198 | 5 => 5 | 173 => 206 | 212 => 208 | 51 => 134 | 20 => 20 | 213 => 209 | 46 => 111 | 232 => 210 | 233 => 211 | n => n, fun | 17 => 0 | 18 => 1 | 19 => 2 | n => n⟩
theorem Tryz.laysM171 : Go.Proofs.LaysM.n171 Tryz.prog Tryz.laysM171_ren := {
 mixed := by kernel_rfl
 f129 := Tryz.func76.trans (congrArg some (by kernel_rfl))
 f171 := Tryz.func118.trans (congrArg some (by kernel_rfl))
 f243 := Tryz.func137.trans (congrArg some (by kernel_rfl))
 f246 := Tryz.func139.trans (congrArg some (by kernel_rfl))
 f283 := Tryz.func141.trans (congrArg some (by kernel_rfl))
 f284 := Tryz.func142.trans (congrArg some (by kernel_rfl))
 f285 := Tryz.func143.trans (congrArg some (by kernel_rfl))
 f286 := Tryz.func144.trans (congrArg some (by kernel_rfl))
 f317 := Tryz.func145.trans (congrArg some (by kernel_rfl))
 f318 := Tryz.func146.trans (congrArg some (by kernel_rfl))
 f319 := Tryz.func147.trans (congrArg some (by kernel_rfl))
 f320 := Tryz.func148.trans (congrArg some (by kernel_rfl))
 f337 := Tryz.func149.trans (congrArg some (by kernel_rfl))
 f338 := Tryz.func150.trans (congrArg some (by kernel_rfl))
 t0 := Tryz.underlying0
 a0 := Tryz.isAgg0
 z0 := Tryz.sizeOf0
 v0 := Tryz.zeroValue0
 t2 := Tryz.underlying2
 a2 := Tryz.isAgg2
 z2 := Tryz.sizeOf2
 v2 := Tryz.zeroValue2
 t3 := Tryz.underlying3
 a3 := Tryz.isAgg3
 z3 := Tryz.sizeOf3
 v3 := Tryz.zeroValue3
 t4 := Tryz.underlying4
 a4 := Tryz.isAgg4
 z4 := Tryz.sizeOf4
 v4 := Tryz.zeroValue4
 t5 := Tryz.underlying5
 a5 := Tryz.isAgg5
 z5 := Tryz.sizeOf5
 v5 := Tryz.zeroValue5
 t9 := Tryz.underlying9
 a9 := Tryz.isAgg9
 z9 := Tryz.sizeOf9
 v9 := Tryz.zeroValue9
 t20 := Tryz.underlying20
 a20 := Tryz.isAgg20
 z20 := Tryz.sizeOf20
 v20 := Tryz.zeroValue20
 t37 := Tryz.underlying198
 a37 := Tryz.isAgg198
 z37 := Tryz.sizeOf198
 v37 := Tryz.zeroValue198
 t46 := Tryz.underlying111
 a46 := Tryz.isAgg111
 z46 := Tryz.sizeOf111
 v46 := Tryz.zeroValue111
 t51 := Tryz.underlying134
 a51 := Tryz.isAgg134
 z51 := Tryz.sizeOf134
 v51 := Tryz.zeroValue134
 t53 := Tryz.underlying115
 a53 := Tryz.isAgg115
 z53 := Tryz.sizeOf115
 v53 := Tryz.zeroValue115
 t171 := Tryz.underlying204
 a171 := Tryz.isAgg204
 z171 := Tryz.sizeOf204
 v171 := Tryz.zeroValue204
 t173 := Tryz.underlying206
 a173 := Tryz.isAgg206
 z173 := Tryz.sizeOf206
 v173 := Tryz.zeroValue206
 t212 := Tryz.underlying208
 a212 := Tryz.isAgg208
 z212 := Tryz.sizeOf208
 v212 := Tryz.zeroValue208
 t213 := Tryz.underlying209
 a213 := Tryz.isAgg209
 z213 := Tryz.sizeOf209
 t232 := Tryz.underlying210
 a232 := Tryz.isAgg210
 z232 := Tryz.sizeOf210
 v232 := Tryz.zeroValue210
 t233 := Tryz.underlying211
 a233 := Tryz.isAgg211
 z233 := Tryz.sizeOf211
 v233 := Tryz.zeroValue211
 g17 := by kernel_rfl
 g18 := by kernel_rfl
 g19 := by kernel_rfl
 i0 := by kernel_rfl
 i2 := by kernel_rfl
 i3 := by kernel_rfl
 i4 := by kernel_rfl
 i5 := by kernel_rfl
 i9 := by kernel_rfl
 i20 := by kernel_rfl
 i37 := by kernel_rfl
 i46 := by kernel_rfl
 i51 := by kernel_rfl
 i53 := by kernel_rfl
 i171 := by kernel_rfl
 i173 := by kernel_rfl
 i212 := by kernel_rfl
 i232 := by kernel_rfl
 i233 := by kernel_rfl
 m17 := by kernel_rfl
 m18 := by kernel_rfl
 m19 := by kernel_rfl }
open Go.RowKit Go.Sort Go.Lib in
theorem Tryz.strconv_Itoa (n : Int) (h0 : -9223372036854775808 <= n) (h1 : n <= 9223372036854775807) (w : World) (htab : Lib.TabIs Tryz.prog w "internal/strconv.uint64pow10" .u64 Lib.pow10Tab) :
  Calls Tryz.prog 118 #[.int .i64 n] w fun e w' => e = .returned (.string ⟨(Lib.itoa n).toArray⟩) /\ ∃ k os, w' = grow (w.drewN k) os := Any.strconv_Itoa Tryz.laysM171 n h0 h1 w htab
end Go.Proofs

