/-
  DERIVED: THE SHELF's CONTRACTS AT THIS DUMP, IN PLAIN WORDS (tools/lay-plain.mjs out of 'TryzShelf.lean', which tools/lay-shelf.mjs wrote): THE SAME DECLARATIONS UNDER THE SAME NAMES: 'import', 'namespace', 'open', 'def', 'theorem' AND NOTHING ELSE: no command of the shelf's: FOR A HAND-IN. Each laying: the table of numbers ('.._ren') and one theorem, a field a fact of the dump's own or the kernel's comparison; each contract: ONE APPLICATION.
-/
import Derived.Shelf.Small.Bits
import Derived.Shelf.Small.Strs
import Derived.Shelf.Strconv.Itoa0
import Derived.Shelf.Strings.Search1
import Derived.Shelf.Strings.Search2
import Derived.Shelf.Strings.Search3
import Derived.Shelf.Strings.Cut
import Derived.Shelf.Strings.Count
import Derived.Shelf.LaysM
import Derived.Shelf.Strings.Shaped
import Derived.Shelf.Sort.Plain
import Derived.Shelf.Strings.Prefix
import Derived.Shelf.Strings.Split
import Derived.Shelf.Unicode.Decode
import Derived.Shelf.Strings.RuneCount
import Derived.Shelf.Strings.Explode
import Derived.Shelf.Unicode.DecodeSlow
import Derived.Ground.SlsfProg
import Derived.Shelf.SlSortCmp.Insertion
import Derived.Shelf.SlSortCmp.SiftDown1
import Derived.Shelf.SlSortCmp.HeapSort1
import Derived.Shelf.SlSortCmp.Insertion1
import Derived.Shelf.SlSortCmp.Median1
import Derived.Shelf.SlSortCmp.Pivot1
import Derived.Shelf.SlSortCmp.ReverseRange1
import Derived.Shelf.SlSortCmp.PartialInsertion1
import Derived.Shelf.SlSortCmp.PartitionEqual1
import Derived.Shelf.SlSortCmp.Partition1
import Derived.Shelf.SlSortCmp.Pdq1
import Derived.Shelf.SlSortCmp.Whole1
import Derived.Shelf.SlSortCmp.NoneTotal
import Derived.Test.YtfenjklilocjgaaGreatDoorProg
namespace Go.Proofs
open Go.Shelf
def Tryz.lays106_ren : Go.Shelf.Ren := ⟨fun | 106 => 33 | 213 => 69 | 265 => 113 | n => n, fun | 9 => 9 | 3 => 3 | n => n, fun | n => n⟩
theorem Tryz.lays106 : Go.Proofs.Lays.n106 Tryz.prog Tryz.lays106_ren := {
  mixed := by kernel_rfl
  f106 := Tryz.func33.trans (congrArg some (by kernel_rfl))
  f213 := Tryz.func69.trans (congrArg some (by kernel_rfl))
  f265 := Tryz.func113.trans (congrArg some (by kernel_rfl))
  t3 := Tryz.underlying3
  a3 := Tryz.isAgg3
  z3 := Tryz.sizeOf3
  v3 := Tryz.zeroValue3
  t9 := Tryz.underlying9
  a9 := Tryz.isAgg9
  z9 := Tryz.sizeOf9
  v9 := Tryz.zeroValue9 }
open Go.RowKit in
/-- strings.Compare: "Compare returns an integer comparing two strings lexicographically. The result will be 0 if a == b, -1 if a < b, and +1 if a > b.": IT RETURNS 'Lib.compareBytes a b'; the world is as it was. (LAID: no walk: one application.) -/
theorem Tryz.strings_Compare (a b : ByteArray) (w : World) :
    Calls Tryz.prog 33 #[.string a, .string b] w fun e w' => e = .returned (.int .i64 (Lib.compareBytes a.data.toList b.data.toList)) ∧ w' = w := Any.strings_Compare Tryz.lays106 a b w
def Tryz.lays145_ren : Go.Shelf.Ren := ⟨fun | 145 => 39 | 220 => 71 | 219 => 114 | 217 => 139 | 225 => 140 | 224 => 141 | 267 => 142 | 266 => 152 | 314 => 153 | n => n, fun | 9 => 9 | 4 => 4 | 59 => 94 | 3 => 3 | 5 => 5 | 46 => 81 | 146 => 188 | 51 => 89 | n => n, fun | 1 => 0 | n => n⟩
theorem Tryz.lays145 : Go.Proofs.Lays.n145 Tryz.prog Tryz.lays145_ren := {
  mixed := by kernel_rfl
  f145 := Tryz.func39.trans (congrArg some (by kernel_rfl))
  f217 := Tryz.func139.trans (congrArg some (by kernel_rfl))
  f219 := Tryz.func114.trans (congrArg some (by kernel_rfl))
  f220 := Tryz.func71.trans (congrArg some (by kernel_rfl))
  f224 := Tryz.func141.trans (congrArg some (by kernel_rfl))
  f225 := Tryz.func140.trans (congrArg some (by kernel_rfl))
  f266 := Tryz.func152.trans (congrArg some (by kernel_rfl))
  f267 := Tryz.func142.trans (congrArg some (by kernel_rfl))
  f314 := Tryz.func153.trans (congrArg some (by kernel_rfl))
  t3 := Tryz.underlying3
  a3 := Tryz.isAgg3
  z3 := Tryz.sizeOf3
  v3 := Tryz.zeroValue3
  t4 := Tryz.underlying4
  a4 := Tryz.isAgg4
  z4 := Tryz.sizeOf4
  v4 := Tryz.zeroValue4
  t5 := Tryz.underlying5
  a5 := Tryz.isAgg5
  z5 := Tryz.sizeOf5
  v5 := Tryz.zeroValue5
  t9 := Tryz.underlying9
  a9 := Tryz.isAgg9
  z9 := Tryz.sizeOf9
  v9 := Tryz.zeroValue9
  t46 := Tryz.underlying81
  a46 := Tryz.isAgg81
  z46 := Tryz.sizeOf81
  v46 := Tryz.zeroValue81
  t51 := Tryz.underlying89
  a51 := Tryz.isAgg89
  z51 := Tryz.sizeOf89
  v51 := Tryz.zeroValue89
  t59 := Tryz.underlying94
  a59 := Tryz.isAgg94
  z59 := Tryz.sizeOf94
  v59 := Tryz.zeroValue94
  t146 := Tryz.underlying188
  a146 := Tryz.isAgg188
  z146 := Tryz.sizeOf188
  v146 := Tryz.zeroValue188
  g1 := by kernel_rfl }
open Go.RowKit Go.Lib in
/-- strings.Cut: "Cut slices s around the first instance of sep, returning the text before and after sep. The found result reports whether sep appears in s. If sep does not appear in s, cut returns s, "", false.": IT RETURNS 'Lib.cut s sep'; the world is as it was but for the count of draws. (LAID: no walk: one application.) -/
theorem Tryz.strings_Cut (s sep : ByteArray) (m : Int) (w : World) (hs : s.size < 4294967281) (hm : w.cell? ⟨0, 0, none⟩ = some (.int .i64 m)) :
    Calls Tryz.prog 39 #[.string s, .string sep] w fun e w' => e = .returned (.tuple #[.string ⟨(Lib.cut s.data.toList sep.data.toList).1.toArray⟩, .string ⟨(Lib.cut s.data.toList sep.data.toList).2.1.toArray⟩, .bool (Lib.cut s.data.toList sep.data.toList).2.2]) ∧ ∃ n, w' = w.drewN n := Any.strings_Cut Tryz.lays145 s sep m w hs hm
def Tryz.lays190_ren : Go.Shelf.Ren := ⟨fun | 190 => 14 | 125 => 29 | 258 => 28 | 128 => 65 | 129 => 66 | 302 => 56 | 303 => 57 | 304 => 58 | 305 => 59 | 306 => 60 | 307 => 61 | 308 => 62 | 309 => 63 | 310 => 64 | 333 => 99 | 329 => 100 | 330 => 101 | 334 => 102 | 335 => 103 | 336 => 104 | 344 => 135 | n => n, fun | 31 => 28 | 9 => 9 | 3 => 3 | 46 => 81 | 0 => 0 | 51 => 89 | 53 => 56 | 4 => 4 | 183 => 111 | 182 => 110 | 131 => 51 | 5 => 5 | 218 => 145 | 222 => 149 | 228 => 173 | 229 => 174 | n => n, fun | n => n⟩
theorem Tryz.lays190 : Go.Proofs.Lays.n190 Tryz.prog Tryz.lays190_ren := {
  mixed := by kernel_rfl
  f125 := Tryz.func29.trans (congrArg some (by kernel_rfl))
  f128 := Tryz.func65.trans (congrArg some (by kernel_rfl))
  f129 := Tryz.func66.trans (congrArg some (by kernel_rfl))
  f190 := Tryz.func14.trans (congrArg some (by kernel_rfl))
  f258 := Tryz.func28.trans (congrArg some (by kernel_rfl))
  f302 := Tryz.func56.trans (congrArg some (by kernel_rfl))
  f303 := Tryz.func57.trans (congrArg some (by kernel_rfl))
  f304 := Tryz.func58.trans (congrArg some (by kernel_rfl))
  f305 := Tryz.func59.trans (congrArg some (by kernel_rfl))
  f306 := Tryz.func60.trans (congrArg some (by kernel_rfl))
  f307 := Tryz.func61.trans (congrArg some (by kernel_rfl))
  f308 := Tryz.func62.trans (congrArg some (by kernel_rfl))
  f309 := Tryz.func63.trans (congrArg some (by kernel_rfl))
  f310 := Tryz.func64.trans (congrArg some (by kernel_rfl))
  f329 := Tryz.func100.trans (congrArg some (by kernel_rfl))
  f330 := Tryz.func101.trans (congrArg some (by kernel_rfl))
  f333 := Tryz.func99.trans (congrArg some (by kernel_rfl))
  f334 := Tryz.func102.trans (congrArg some (by kernel_rfl))
  f335 := Tryz.func103.trans (congrArg some (by kernel_rfl))
  f336 := Tryz.func104.trans (congrArg some (by kernel_rfl))
  f344 := Tryz.func135.trans (congrArg some (by kernel_rfl))
  t0 := Tryz.underlying0
  a0 := Tryz.isAgg0
  z0 := Tryz.sizeOf0
  v0 := Tryz.zeroValue0
  t3 := Tryz.underlying3
  a3 := Tryz.isAgg3
  z3 := Tryz.sizeOf3
  v3 := Tryz.zeroValue3
  t4 := Tryz.underlying4
  a4 := Tryz.isAgg4
  z4 := Tryz.sizeOf4
  v4 := Tryz.zeroValue4
  t5 := Tryz.underlying5
  a5 := Tryz.isAgg5
  z5 := Tryz.sizeOf5
  v5 := Tryz.zeroValue5
  t9 := Tryz.underlying9
  a9 := Tryz.isAgg9
  z9 := Tryz.sizeOf9
  v9 := Tryz.zeroValue9
  t31 := Tryz.underlying28
  a31 := Tryz.isAgg28
  z31 := Tryz.sizeOf28
  v31 := Tryz.zeroValue28
  t46 := Tryz.underlying81
  a46 := Tryz.isAgg81
  z46 := Tryz.sizeOf81
  v46 := Tryz.zeroValue81
  t51 := Tryz.underlying89
  a51 := Tryz.isAgg89
  z51 := Tryz.sizeOf89
  v51 := Tryz.zeroValue89
  t53 := Tryz.underlying56
  a53 := Tryz.isAgg56
  z53 := Tryz.sizeOf56
  v53 := Tryz.zeroValue56
  t131 := Tryz.underlying51
  a131 := Tryz.isAgg51
  z131 := Tryz.sizeOf51
  v131 := Tryz.zeroValue51
  t182 := Tryz.underlying110
  a182 := Tryz.isAgg110
  z182 := Tryz.sizeOf110
  v182 := Tryz.zeroValue110
  t183 := Tryz.underlying111
  a183 := Tryz.isAgg111
  z183 := Tryz.sizeOf111
  v183 := Tryz.zeroValue111
  t218 := Tryz.underlying145
  a218 := Tryz.isAgg145
  z218 := Tryz.sizeOf145
  v218 := Tryz.zeroValue145
  t222 := Tryz.underlying149
  a222 := Tryz.isAgg149
  z222 := Tryz.sizeOf149
  v222 := Tryz.zeroValue149
  t228 := Tryz.underlying173
  a228 := Tryz.isAgg173
  z228 := Tryz.sizeOf173
  v228 := Tryz.zeroValue173
  t229 := Tryz.underlying174
  a229 := Tryz.isAgg174
  z229 := Tryz.sizeOf174
  v229 := Tryz.zeroValue174 }
open Go.Sort Go.RowKit in
theorem Tryz.slices_Sort_string (blk off cap : Nat) (ss : List (List UInt8)) (w : World) (hH : Holds encStr w blk off ss.toArray) (hblk : blk < w.heap.size) (hsz : ss.length < 4611686018427387904) :
    Calls Tryz.prog 14 #[.slice (some ⟨blk, off, none⟩) ss.length cap] w fun e w' =>
      e = .returned (.tuple #[]) ∧ ∃ n os, w' = grow (putRow encStr (Sort.ahead w n) blk off (ss.mergeSort fun x y => decide (x ≤ y)).toArray) os := Any.slices_Sort_string Tryz.lays190 blk off cap ss w hH hblk hsz
def Tryz.lays99_ren : Go.Shelf.Ren := ⟨fun | 99 => 72 | 206 => 115 | n => n, fun | 9 => 9 | 4 => 4 | 3 => 3 | n => n, fun | n => n⟩
theorem Tryz.lays99 : Go.Proofs.Lays.n99 Tryz.prog Tryz.lays99_ren := {
  mixed := by kernel_rfl
  f99 := Tryz.func72.trans (congrArg some (by kernel_rfl))
  f206 := Tryz.func115.trans (congrArg some (by kernel_rfl))
  t3 := Tryz.underlying3
  a3 := Tryz.isAgg3
  z3 := Tryz.sizeOf3
  v3 := Tryz.zeroValue3
  t4 := Tryz.underlying4
  a4 := Tryz.isAgg4
  z4 := Tryz.sizeOf4
  v4 := Tryz.zeroValue4
  t9 := Tryz.underlying9
  a9 := Tryz.isAgg9
  z9 := Tryz.sizeOf9
  v9 := Tryz.zeroValue9 }
open Go.RowKit Go.Lib in
/-- strings.HasPrefix: "HasPrefix reports whether the string s begins with prefix.": IT RETURNS 'Lib.hasPrefix s prefix'; the world is as it was. (LAID: no walk: one application.) -/
theorem Tryz.strings_HasPrefix (s p : ByteArray) (w : World) :
    Calls Tryz.prog 72 #[.string s, .string p] w fun e w' => e = .returned (.bool (Lib.hasPrefix s.data.toList p.data.toList)) ∧ w' = w := Any.strings_HasPrefix Tryz.lays99 s p w
def Tryz.lays146_ren : Go.Shelf.Ren := ⟨fun | 146 => 116 | 221 => 143 | 268 => 154 | 138 => 155 | 143 => 156 | 195 => 160 | 197 => 161 | 218 => 162 | 219 => 114 | 260 => 163 | 217 => 139 | 225 => 140 | 224 => 141 | 267 => 142 | 266 => 152 | 314 => 153 | n => n, fun | 9 => 9 | 31 => 28 | 3 => 3 | 4 => 4 | 0 => 0 | 105 => 181 | 21 => 21 | 5 => 5 | 46 => 81 | 119 => 197 | 139 => 200 | 138 => 199 | 146 => 188 | 51 => 89 | n => n, fun | 1 => 0 | 3 => 1 | 4 => 2 | n => n⟩
theorem Tryz.lays146 : Go.Proofs.Lays.n146 Tryz.prog Tryz.lays146_ren := {
  mixed := by kernel_rfl
  f138 := Tryz.func155.trans (congrArg some (by kernel_rfl))
  f143 := Tryz.func156.trans (congrArg some (by kernel_rfl))
  f146 := Tryz.func116.trans (congrArg some (by kernel_rfl))
  f195 := Tryz.func160.trans (congrArg some (by kernel_rfl))
  f197 := Tryz.func161.trans (congrArg some (by kernel_rfl))
  f217 := Tryz.func139.trans (congrArg some (by kernel_rfl))
  f218 := Tryz.func162.trans (congrArg some (by kernel_rfl))
  f219 := Tryz.func114.trans (congrArg some (by kernel_rfl))
  f221 := Tryz.func143.trans (congrArg some (by kernel_rfl))
  f224 := Tryz.func141.trans (congrArg some (by kernel_rfl))
  f225 := Tryz.func140.trans (congrArg some (by kernel_rfl))
  f260 := Tryz.func163.trans (congrArg some (by kernel_rfl))
  f266 := Tryz.func152.trans (congrArg some (by kernel_rfl))
  f267 := Tryz.func142.trans (congrArg some (by kernel_rfl))
  f268 := Tryz.func154.trans (congrArg some (by kernel_rfl))
  f314 := Tryz.func153.trans (congrArg some (by kernel_rfl))
  t0 := Tryz.underlying0
  a0 := Tryz.isAgg0
  z0 := Tryz.sizeOf0
  v0 := Tryz.zeroValue0
  t3 := Tryz.underlying3
  a3 := Tryz.isAgg3
  z3 := Tryz.sizeOf3
  v3 := Tryz.zeroValue3
  t4 := Tryz.underlying4
  a4 := Tryz.isAgg4
  z4 := Tryz.sizeOf4
  v4 := Tryz.zeroValue4
  t5 := Tryz.underlying5
  a5 := Tryz.isAgg5
  z5 := Tryz.sizeOf5
  v5 := Tryz.zeroValue5
  t9 := Tryz.underlying9
  a9 := Tryz.isAgg9
  z9 := Tryz.sizeOf9
  v9 := Tryz.zeroValue9
  t21 := Tryz.underlying21
  a21 := Tryz.isAgg21
  z21 := Tryz.sizeOf21
  v21 := Tryz.zeroValue21
  t31 := Tryz.underlying28
  a31 := Tryz.isAgg28
  z31 := Tryz.sizeOf28
  v31 := Tryz.zeroValue28
  t46 := Tryz.underlying81
  a46 := Tryz.isAgg81
  z46 := Tryz.sizeOf81
  v46 := Tryz.zeroValue81
  t51 := Tryz.underlying89
  a51 := Tryz.isAgg89
  z51 := Tryz.sizeOf89
  v51 := Tryz.zeroValue89
  t105 := Tryz.underlying181
  a105 := Tryz.isAgg181
  z105 := Tryz.sizeOf181
  v105 := Tryz.zeroValue181
  t119 := Tryz.underlying197
  a119 := Tryz.isAgg197
  z119 := Tryz.sizeOf197
  t138 := Tryz.underlying199
  a138 := Tryz.isAgg199
  z138 := Tryz.sizeOf199
  v138 := Tryz.zeroValue199
  t139 := Tryz.underlying200
  a139 := Tryz.isAgg200
  z139 := Tryz.sizeOf200
  v139 := Tryz.zeroValue200
  t146 := Tryz.underlying188
  a146 := Tryz.isAgg188
  z146 := Tryz.sizeOf188
  v146 := Tryz.zeroValue188
  g1 := by kernel_rfl
  g3 := by kernel_rfl
  g4 := by kernel_rfl }
open Go.RowKit Go.Lib in
/-- strings.Split. (LAID: no walk: one application.) -/
theorem Tryz.strings_Split (s sep : ByteArray) (m : Int) (w : World) (hs : s.size < 4294967281) (hm : w.cell? ⟨0, 0, none⟩ = some (.int .i64 m)) (h1 : 1 ≤ sep.size) :
    Calls Tryz.prog 116 #[.string s, .string sep] w fun e w' =>
      e = .returned (.slice (some ⟨w.heap.size, 0, none⟩) (Lib.countB s sep + 1) (Lib.countB s sep + 1)) ∧ w' = w.alloc (.cells ((Lib.splitB sep 0 (Lib.countB s sep) s).map Value.string).toArray 9) := Any.strings_Split Tryz.lays146 (by kernel_rfl) s sep m w hs hm h1
def Tryz.laysSlF6_f31_ren : Go.Shelf.Ren := ⟨fun | 6 => 31 | 15 => 29 | 14 => 68 | 28 => 65 | 29 => 66 | 20 => 105 | 21 => 106 | 22 => 107 | 23 => 108 | 24 => 109 | 25 => 110 | 26 => 111 | 27 => 112 | 46 => 136 | 47 => 100 | 48 => 101 | 49 => 137 | 50 => 138 | 57 => 151 | n => n, fun | 22 => 27 | 24 => 3 | 25 => 84 | 3 => 3 | 39 => 81 | 0 => 0 | 53 => 89 | 55 => 56 | 4 => 4 | 46 => 111 | 45 => 110 | 50 => 51 | 5 => 5 | 9 => 9 | 66 => 145 | 70 => 149 | 76 => 173 | 77 => 174 | n => n, fun | n => n⟩
theorem Tryz.laysSlF6_f31 : Go.Proofs.SlLaysF.n6 Tryz.prog Tryz.laysSlF6_f31_ren := {
  mixed := by kernel_rfl
  f6 := ⟨Tryz.f31.name, by decide, Tryz.func31.trans (congrArg some (by kernel_rfl))⟩
  f14 := ⟨Tryz.f68.name, by decide, Tryz.func68.trans (congrArg some (by kernel_rfl))⟩
  f15 := Tryz.func29.trans (congrArg some (by kernel_rfl))
  f20 := ⟨Tryz.f105.name, by decide, Tryz.func105.trans (congrArg some (by kernel_rfl))⟩
  f21 := ⟨Tryz.f106.name, by decide, Tryz.func106.trans (congrArg some (by kernel_rfl))⟩
  f22 := ⟨Tryz.f107.name, by decide, Tryz.func107.trans (congrArg some (by kernel_rfl))⟩
  f23 := ⟨Tryz.f108.name, by decide, Tryz.func108.trans (congrArg some (by kernel_rfl))⟩
  f24 := ⟨Tryz.f109.name, by decide, Tryz.func109.trans (congrArg some (by kernel_rfl))⟩
  f25 := ⟨Tryz.f110.name, by decide, Tryz.func110.trans (congrArg some (by kernel_rfl))⟩
  f26 := ⟨Tryz.f111.name, by decide, Tryz.func111.trans (congrArg some (by kernel_rfl))⟩
  f27 := ⟨Tryz.f112.name, by decide, Tryz.func112.trans (congrArg some (by kernel_rfl))⟩
  f28 := Tryz.func65.trans (congrArg some (by kernel_rfl))
  f29 := Tryz.func66.trans (congrArg some (by kernel_rfl))
  f46 := ⟨Tryz.f136.name, by decide, Tryz.func136.trans (congrArg some (by kernel_rfl))⟩
  f47 := Tryz.func100.trans (congrArg some (by kernel_rfl))
  f48 := Tryz.func101.trans (congrArg some (by kernel_rfl))
  f49 := ⟨Tryz.f137.name, by decide, Tryz.func137.trans (congrArg some (by kernel_rfl))⟩
  f50 := ⟨Tryz.f138.name, by decide, Tryz.func138.trans (congrArg some (by kernel_rfl))⟩
  f57 := ⟨Tryz.f151.name, by decide, Tryz.func151.trans (congrArg some (by kernel_rfl))⟩
  t0 := Tryz.underlying0
  a0 := Tryz.isAgg0
  z0 := Tryz.sizeOf0
  v0 := Tryz.zeroValue0
  t3 := Tryz.underlying3
  a3 := Tryz.isAgg3
  z3 := Tryz.sizeOf3
  v3 := Tryz.zeroValue3
  t4 := Tryz.underlying4
  a4 := Tryz.isAgg4
  z4 := Tryz.sizeOf4
  v4 := Tryz.zeroValue4
  t5 := Tryz.underlying5
  a5 := Tryz.isAgg5
  z5 := Tryz.sizeOf5
  v5 := Tryz.zeroValue5
  t9 := Tryz.underlying9
  a9 := Tryz.isAgg9
  z9 := Tryz.sizeOf9
  v9 := Tryz.zeroValue9
  t22 := Tryz.underlying27
  a22 := Tryz.isAgg27
  z22 := Tryz.sizeOf27
  v22 := Tryz.zeroValue27
  a24 := Tryz.isAgg3
  z24 := Tryz.sizeOf3
  t25 := Tryz.underlying84
  a25 := Tryz.isAgg84
  z25 := Tryz.sizeOf84
  v25 := Tryz.zeroValue84
  t39 := Tryz.underlying81
  a39 := Tryz.isAgg81
  z39 := Tryz.sizeOf81
  v39 := Tryz.zeroValue81
  t45 := Tryz.underlying110
  a45 := Tryz.isAgg110
  z45 := Tryz.sizeOf110
  v45 := Tryz.zeroValue110
  t46 := Tryz.underlying111
  a46 := Tryz.isAgg111
  z46 := Tryz.sizeOf111
  v46 := Tryz.zeroValue111
  t50 := Tryz.underlying51
  a50 := Tryz.isAgg51
  z50 := Tryz.sizeOf51
  v50 := Tryz.zeroValue51
  t53 := Tryz.underlying89
  a53 := Tryz.isAgg89
  z53 := Tryz.sizeOf89
  v53 := Tryz.zeroValue89
  t55 := Tryz.underlying56
  a55 := Tryz.isAgg56
  z55 := Tryz.sizeOf56
  v55 := Tryz.zeroValue56
  t66 := Tryz.underlying145
  a66 := Tryz.isAgg145
  z66 := Tryz.sizeOf145
  v66 := Tryz.zeroValue145
  t70 := Tryz.underlying149
  a70 := Tryz.isAgg149
  z70 := Tryz.sizeOf149
  v70 := Tryz.zeroValue149
  t76 := Tryz.underlying173
  a76 := Tryz.isAgg173
  z76 := Tryz.sizeOf173
  v76 := Tryz.zeroValue173
  t77 := Tryz.underlying174
  a77 := Tryz.isAgg174
  z77 := Tryz.sizeOf174
  v77 := Tryz.zeroValue174 }
open Go.RowKit Go.Lib Go.Sort in
/-- **slices.SortFunc, IN THE DOCUMENTATION's OWN TERMS: A PERMUTATION OF WHAT THE ROW HELD, SORTED BY 'cmp(a, b) < 0'.** Which of two equals comes first is left open ("The sort is not guaranteed to be stable"). (LAID AT THE INSTANCE 'slices.SortFunc[[]int,int]': no walk: one application.) -/
theorem Tryz.slices_SortFunc {α : Type} [Inhabited α] (enc : α → Value) (h1 : OneCell enc) (cf : α → α → Int) (hO : SWO (ltOf cf)) (g : Nat) (cb : Array Value) (blk off cap : Nat) (d : Array α) (w : World) (eg : ∀ args w, (callFunc g args).run Tryz.prog w = .ok (.enter g args) w) (hcmp : CmpLays1 Tryz.prog g cb enc cf blk off d.size w) (hH : Holds enc w blk off d) (hblk : blk < w.heap.size) (hsz : d.size < 4611686018427387904) :
    Calls Tryz.prog 31 #[.slice (some ⟨blk, off, none⟩) d.size cap, .func (.func g) #[] cb] w fun e w' =>
      e = .returned (.tuple #[]) ∧ ∃ d' n os, PermIn 0 d.size d d' ∧ SortedIn (ltOf cf) 0 d.size d' ∧ w' = sortWorld enc w blk off n d' os := Any.slices_SortFunc Tryz.laysSlF6_f31 enc h1 cf hO g cb blk off cap d w eg hcmp hH hblk hsz
def Tryz.laysSlF06_f31_ren : Go.Shelf.Ren := ⟨fun | 6 => 31 | 15 => 29 | 14 => 68 | 28 => 65 | 29 => 66 | 20 => 105 | 21 => 106 | 22 => 107 | 23 => 108 | 24 => 109 | 25 => 110 | 26 => 111 | 27 => 112 | 46 => 136 | 47 => 100 | 48 => 101 | 49 => 137 | 50 => 138 | 57 => 151 | n => n, fun | 22 => 27 | 24 => 3 | 25 => 84 | 3 => 3 | 39 => 81 | 0 => 0 | 53 => 89 | 55 => 56 | 4 => 4 | 46 => 111 | 45 => 110 | 50 => 51 | 5 => 5 | 9 => 9 | 66 => 145 | 70 => 149 | 76 => 173 | 77 => 174 | n => n, fun | n => n⟩
theorem Tryz.laysSlF06_f31 : Go.Proofs.SlLaysF0.n6 Tryz.prog Tryz.laysSlF06_f31_ren := {
  mixed := by kernel_rfl
  f6 := ⟨Tryz.f31.name, by decide, Tryz.func31.trans (congrArg some (by kernel_rfl))⟩
  f14 := ⟨Tryz.f68.name, by decide, Tryz.func68.trans (congrArg some (by kernel_rfl))⟩
  f15 := Tryz.func29.trans (congrArg some (by kernel_rfl))
  f20 := ⟨Tryz.f105.name, by decide, Tryz.func105.trans (congrArg some (by kernel_rfl))⟩
  f21 := ⟨Tryz.f106.name, by decide, Tryz.func106.trans (congrArg some (by kernel_rfl))⟩
  f22 := ⟨Tryz.f107.name, by decide, Tryz.func107.trans (congrArg some (by kernel_rfl))⟩
  f23 := ⟨Tryz.f108.name, by decide, Tryz.func108.trans (congrArg some (by kernel_rfl))⟩
  f24 := ⟨Tryz.f109.name, by decide, Tryz.func109.trans (congrArg some (by kernel_rfl))⟩
  f25 := ⟨Tryz.f110.name, by decide, Tryz.func110.trans (congrArg some (by kernel_rfl))⟩
  f26 := ⟨Tryz.f111.name, by decide, Tryz.func111.trans (congrArg some (by kernel_rfl))⟩
  f27 := ⟨Tryz.f112.name, by decide, Tryz.func112.trans (congrArg some (by kernel_rfl))⟩
  f28 := Tryz.func65.trans (congrArg some (by kernel_rfl))
  f29 := Tryz.func66.trans (congrArg some (by kernel_rfl))
  f46 := ⟨Tryz.f136.name, by decide, Tryz.func136.trans (congrArg some (by kernel_rfl))⟩
  f47 := Tryz.func100.trans (congrArg some (by kernel_rfl))
  f48 := Tryz.func101.trans (congrArg some (by kernel_rfl))
  f49 := ⟨Tryz.f137.name, by decide, Tryz.func137.trans (congrArg some (by kernel_rfl))⟩
  f50 := ⟨Tryz.f138.name, by decide, Tryz.func138.trans (congrArg some (by kernel_rfl))⟩
  f57 := ⟨Tryz.f151.name, by decide, Tryz.func151.trans (congrArg some (by kernel_rfl))⟩
  t0 := Tryz.underlying0
  a0 := Tryz.isAgg0
  z0 := Tryz.sizeOf0
  v0 := Tryz.zeroValue0
  t3 := Tryz.underlying3
  a3 := Tryz.isAgg3
  z3 := Tryz.sizeOf3
  v3 := Tryz.zeroValue3
  t4 := Tryz.underlying4
  a4 := Tryz.isAgg4
  z4 := Tryz.sizeOf4
  v4 := Tryz.zeroValue4
  t5 := Tryz.underlying5
  a5 := Tryz.isAgg5
  z5 := Tryz.sizeOf5
  v5 := Tryz.zeroValue5
  t9 := Tryz.underlying9
  a9 := Tryz.isAgg9
  z9 := Tryz.sizeOf9
  v9 := Tryz.zeroValue9
  t22 := Tryz.underlying27
  a22 := Tryz.isAgg27
  z22 := Tryz.sizeOf27
  v22 := Tryz.zeroValue27
  t25 := Tryz.underlying84
  a25 := Tryz.isAgg84
  z25 := Tryz.sizeOf84
  v25 := Tryz.zeroValue84
  t39 := Tryz.underlying81
  a39 := Tryz.isAgg81
  z39 := Tryz.sizeOf81
  v39 := Tryz.zeroValue81
  t45 := Tryz.underlying110
  a45 := Tryz.isAgg110
  z45 := Tryz.sizeOf110
  v45 := Tryz.zeroValue110
  t46 := Tryz.underlying111
  a46 := Tryz.isAgg111
  z46 := Tryz.sizeOf111
  v46 := Tryz.zeroValue111
  t50 := Tryz.underlying51
  a50 := Tryz.isAgg51
  z50 := Tryz.sizeOf51
  v50 := Tryz.zeroValue51
  t53 := Tryz.underlying89
  a53 := Tryz.isAgg89
  z53 := Tryz.sizeOf89
  v53 := Tryz.zeroValue89
  t55 := Tryz.underlying56
  a55 := Tryz.isAgg56
  z55 := Tryz.sizeOf56
  v55 := Tryz.zeroValue56
  t66 := Tryz.underlying145
  a66 := Tryz.isAgg145
  z66 := Tryz.sizeOf145
  v66 := Tryz.zeroValue145
  t70 := Tryz.underlying149
  a70 := Tryz.isAgg149
  z70 := Tryz.sizeOf149
  v70 := Tryz.zeroValue149
  t76 := Tryz.underlying173
  a76 := Tryz.isAgg173
  z76 := Tryz.sizeOf173
  v76 := Tryz.zeroValue173
  t77 := Tryz.underlying174
  a77 := Tryz.isAgg174
  z77 := Tryz.sizeOf174
  v77 := Tryz.zeroValue174 }
open Go.RowKit Go.Lib Go.Sort in
/-- **slices.SortFunc AT NO ELEMENT, A nil SLICE TOO: nothing turns.** (LAID AT THE INSTANCE 'slices.SortFunc[[]int,int]': no walk: one application.) -/
theorem Tryz.slices_SortFunc_none {α : Type} [Inhabited α] (p : Option Addr) (cap : Nat) (fv : Value) (w : World) :
    Calls Tryz.prog 31 #[.slice p 0 cap, fv] w fun e w' => e = .returned (.tuple #[]) ∧ w' = w := AnyF.slices_SortFunc_none Tryz.laysSlF06_f31 p cap fv w
end Go.Proofs

