/- OWN WORK: a part of the proof of a law of the seat YtonmgdamojingaaDoor: the rules by which the code is walked. -/
import Derived.Shelf.Strings.SlTrimAscii
import Derived.Shelf.Strings.Trim
import Derived.Shelf.Small.Utf8
import Derived.Shelf.Small.Strs
import Derived.Shelf.Strings.Search1
import Derived.Shelf.Strings.Search2
import Derived.Shelf.Strings.Search3
import Derived.Shelf.Sort.Plain
import Derived.Shelf.Slices.In.SortNone
import Derived.Test.YtonmgdamojingaaDoorProg
namespace Go.Proofs
open Go.Shelf
def Tryd.lays160_ren : Go.Shelf.Ren := ⟨fun | 160 => 46 | 232 => 55 | 231 => 54 | 227 => 56 | 234 => 58 | 233 => 57 | 236 => 60 | 235 => 59 | 228 => 65 | 271 => 68 | 151 => 67 | 197 => 66 | 120 => 74 | 152 => 73 | 260 => 72 | 137 => 87 | 119 => 88 | 224 => 89 | 225 => 90 | 217 => 91 | 266 => 99 | n => n, fun | 9 => 9 | 4 => 4 | 3 => 3 | 5 => 5 | 117 => 91 | 116 => 90 | 0 => 0 | 124 => 94 | 21 => 21 | 105 => 100 | 46 => 106 | 119 => 120 | 139 => 123 | 138 => 122 | n => n, fun | 3 => 0 | 4 => 1 | n => n⟩
theorem Tryd.lays160 : Go.Proofs.Lays.n160 Tryd.prog Tryd.lays160_ren := {
  mixed := by kernel_rfl
  f119 := Tryd.func88.trans (congrArg some (by kernel_rfl))
  f120 := Tryd.func74.trans (congrArg some (by kernel_rfl))
  f137 := Tryd.func87.trans (congrArg some (by kernel_rfl))
  f151 := Tryd.func67.trans (congrArg some (by kernel_rfl))
  f152 := Tryd.func73.trans (congrArg some (by kernel_rfl))
  f160 := Tryd.func46.trans (congrArg some (by kernel_rfl))
  f197 := Tryd.func66.trans (congrArg some (by kernel_rfl))
  f217 := Tryd.func91.trans (congrArg some (by kernel_rfl))
  f224 := Tryd.func89.trans (congrArg some (by kernel_rfl))
  f225 := Tryd.func90.trans (congrArg some (by kernel_rfl))
  f227 := Tryd.func56.trans (congrArg some (by kernel_rfl))
  f228 := Tryd.func65.trans (congrArg some (by kernel_rfl))
  f231 := Tryd.func54.trans (congrArg some (by kernel_rfl))
  f232 := Tryd.func55.trans (congrArg some (by kernel_rfl))
  f233 := Tryd.func57.trans (congrArg some (by kernel_rfl))
  f234 := Tryd.func58.trans (congrArg some (by kernel_rfl))
  f235 := Tryd.func59.trans (congrArg some (by kernel_rfl))
  f236 := Tryd.func60.trans (congrArg some (by kernel_rfl))
  f260 := Tryd.func72.trans (congrArg some (by kernel_rfl))
  f266 := Tryd.func99.trans (congrArg some (by kernel_rfl))
  f271 := Tryd.func68.trans (congrArg some (by kernel_rfl))
  t0 := Tryd.underlying0
  a0 := Tryd.isAgg0
  z0 := Tryd.sizeOf0
  v0 := Tryd.zeroValue0
  t3 := Tryd.underlying3
  a3 := Tryd.isAgg3
  z3 := Tryd.sizeOf3
  v3 := Tryd.zeroValue3
  t4 := Tryd.underlying4
  a4 := Tryd.isAgg4
  z4 := Tryd.sizeOf4
  v4 := Tryd.zeroValue4
  t5 := Tryd.underlying5
  a5 := Tryd.isAgg5
  z5 := Tryd.sizeOf5
  v5 := Tryd.zeroValue5
  t9 := Tryd.underlying9
  a9 := Tryd.isAgg9
  z9 := Tryd.sizeOf9
  v9 := Tryd.zeroValue9
  t21 := Tryd.underlying21
  a21 := Tryd.isAgg21
  z21 := Tryd.sizeOf21
  v21 := Tryd.zeroValue21
  t46 := Tryd.underlying106
  a46 := Tryd.isAgg106
  z46 := Tryd.sizeOf106
  v46 := Tryd.zeroValue106
  t105 := Tryd.underlying100
  a105 := Tryd.isAgg100
  z105 := Tryd.sizeOf100
  v105 := Tryd.zeroValue100
  t116 := Tryd.underlying90
  a116 := Tryd.isAgg90
  z116 := Tryd.sizeOf90
  t117 := Tryd.underlying91
  a117 := Tryd.isAgg91
  z117 := Tryd.sizeOf91
  v117 := Tryd.zeroValue91
  t119 := Tryd.underlying120
  a119 := Tryd.isAgg120
  z119 := Tryd.sizeOf120
  t124 := Tryd.underlying94
  a124 := Tryd.isAgg94
  z124 := Tryd.sizeOf94
  v124 := Tryd.zeroValue94
  t138 := Tryd.underlying122
  a138 := Tryd.isAgg122
  z138 := Tryd.sizeOf122
  v138 := Tryd.zeroValue122
  t139 := Tryd.underlying123
  a139 := Tryd.isAgg123
  z139 := Tryd.sizeOf123
  v139 := Tryd.zeroValue123
  g3 := by kernel_rfl
  g4 := by kernel_rfl }
def Tryd.lays144_ren : Go.Shelf.Ren := ⟨fun | 144 => 62 | 143 => 69 | 219 => 75 | 217 => 91 | 225 => 90 | 224 => 89 | 267 => 92 | 266 => 99 | 314 => 100 | n => n, fun | 9 => 9 | 4 => 4 | 3 => 3 | 5 => 5 | 46 => 106 | 146 => 133 | 51 => 117 | n => n, fun | 1 => 2 | n => n⟩
theorem Tryd.lays144 : Go.Proofs.Lays.n144 Tryd.prog Tryd.lays144_ren := {
  mixed := by kernel_rfl
  f143 := Tryd.func69.trans (congrArg some (by kernel_rfl))
  f144 := Tryd.func62.trans (congrArg some (by kernel_rfl))
  f217 := Tryd.func91.trans (congrArg some (by kernel_rfl))
  f219 := Tryd.func75.trans (congrArg some (by kernel_rfl))
  f224 := Tryd.func89.trans (congrArg some (by kernel_rfl))
  f225 := Tryd.func90.trans (congrArg some (by kernel_rfl))
  f266 := Tryd.func99.trans (congrArg some (by kernel_rfl))
  f267 := Tryd.func92.trans (congrArg some (by kernel_rfl))
  f314 := Tryd.func100.trans (congrArg some (by kernel_rfl))
  t3 := Tryd.underlying3
  a3 := Tryd.isAgg3
  z3 := Tryd.sizeOf3
  v3 := Tryd.zeroValue3
  t4 := Tryd.underlying4
  a4 := Tryd.isAgg4
  z4 := Tryd.sizeOf4
  v4 := Tryd.zeroValue4
  t5 := Tryd.underlying5
  a5 := Tryd.isAgg5
  z5 := Tryd.sizeOf5
  v5 := Tryd.zeroValue5
  t9 := Tryd.underlying9
  a9 := Tryd.isAgg9
  z9 := Tryd.sizeOf9
  v9 := Tryd.zeroValue9
  t46 := Tryd.underlying106
  a46 := Tryd.isAgg106
  z46 := Tryd.sizeOf106
  v46 := Tryd.zeroValue106
  t51 := Tryd.underlying117
  a51 := Tryd.isAgg117
  z51 := Tryd.sizeOf117
  v51 := Tryd.zeroValue117
  t146 := Tryd.underlying133
  a146 := Tryd.isAgg133
  z146 := Tryd.sizeOf133
  v146 := Tryd.zeroValue133
  g1 := by kernel_rfl }
open Go.RowKit Go.Lib in
/-- strings.Contains: "Contains reports whether substr is within s.": AT A substr OF ONE BYTE c: IT RETURNS 'decide (0 ≤ Lib.indexByte s c)'; the world is as it was. (LAID: no walk: one application.) -/
theorem Tryd.strings_Contains_one (s : ByteArray) (c : UInt8) (w : World) :
    Calls Tryd.prog 62 #[.string s, .string ⟨#[c]⟩] w fun e w' => e = .returned (.bool (decide (0 ≤ Lib.indexByte s.data.toList c))) ∧ w' = w := Any.strings_Contains_one Tryd.lays144 s c w
def Tryd.lays190_ren : Go.Shelf.Ren := ⟨fun | 190 => 63 | 125 => 71 | 258 => 70 | 128 => 85 | 129 => 86 | 302 => 76 | 303 => 77 | 304 => 78 | 305 => 79 | 306 => 80 | 307 => 81 | 308 => 82 | 309 => 83 | 310 => 84 | 333 => 93 | 329 => 94 | 330 => 95 | 334 => 96 | 335 => 97 | 336 => 98 | 344 => 101 | n => n, fun | 31 => 45 | 9 => 9 | 3 => 3 | 46 => 106 | 0 => 0 | 51 => 117 | 53 => 119 | 4 => 4 | 183 => 110 | 182 => 109 | 131 => 114 | 5 => 5 | 218 => 127 | 222 => 131 | 228 => 135 | 229 => 136 | n => n, fun | n => n⟩
theorem Tryd.lays190 : Go.Proofs.Lays.n190 Tryd.prog Tryd.lays190_ren := {
  mixed := by kernel_rfl
  f125 := Tryd.func71.trans (congrArg some (by kernel_rfl))
  f128 := Tryd.func85.trans (congrArg some (by kernel_rfl))
  f129 := Tryd.func86.trans (congrArg some (by kernel_rfl))
  f190 := Tryd.func63.trans (congrArg some (by kernel_rfl))
  f258 := Tryd.func70.trans (congrArg some (by kernel_rfl))
  f302 := Tryd.func76.trans (congrArg some (by kernel_rfl))
  f303 := Tryd.func77.trans (congrArg some (by kernel_rfl))
  f304 := Tryd.func78.trans (congrArg some (by kernel_rfl))
  f305 := Tryd.func79.trans (congrArg some (by kernel_rfl))
  f306 := Tryd.func80.trans (congrArg some (by kernel_rfl))
  f307 := Tryd.func81.trans (congrArg some (by kernel_rfl))
  f308 := Tryd.func82.trans (congrArg some (by kernel_rfl))
  f309 := Tryd.func83.trans (congrArg some (by kernel_rfl))
  f310 := Tryd.func84.trans (congrArg some (by kernel_rfl))
  f329 := Tryd.func94.trans (congrArg some (by kernel_rfl))
  f330 := Tryd.func95.trans (congrArg some (by kernel_rfl))
  f333 := Tryd.func93.trans (congrArg some (by kernel_rfl))
  f334 := Tryd.func96.trans (congrArg some (by kernel_rfl))
  f335 := Tryd.func97.trans (congrArg some (by kernel_rfl))
  f336 := Tryd.func98.trans (congrArg some (by kernel_rfl))
  f344 := Tryd.func101.trans (congrArg some (by kernel_rfl))
  t0 := Tryd.underlying0
  a0 := Tryd.isAgg0
  z0 := Tryd.sizeOf0
  v0 := Tryd.zeroValue0
  t3 := Tryd.underlying3
  a3 := Tryd.isAgg3
  z3 := Tryd.sizeOf3
  v3 := Tryd.zeroValue3
  t4 := Tryd.underlying4
  a4 := Tryd.isAgg4
  z4 := Tryd.sizeOf4
  v4 := Tryd.zeroValue4
  t5 := Tryd.underlying5
  a5 := Tryd.isAgg5
  z5 := Tryd.sizeOf5
  v5 := Tryd.zeroValue5
  t9 := Tryd.underlying9
  a9 := Tryd.isAgg9
  z9 := Tryd.sizeOf9
  v9 := Tryd.zeroValue9
  t31 := Tryd.underlying45
  a31 := Tryd.isAgg45
  z31 := Tryd.sizeOf45
  v31 := Tryd.zeroValue45
  t46 := Tryd.underlying106
  a46 := Tryd.isAgg106
  z46 := Tryd.sizeOf106
  v46 := Tryd.zeroValue106
  t51 := Tryd.underlying117
  a51 := Tryd.isAgg117
  z51 := Tryd.sizeOf117
  v51 := Tryd.zeroValue117
  t53 := Tryd.underlying119
  a53 := Tryd.isAgg119
  z53 := Tryd.sizeOf119
  v53 := Tryd.zeroValue119
  t131 := Tryd.underlying114
  a131 := Tryd.isAgg114
  z131 := Tryd.sizeOf114
  v131 := Tryd.zeroValue114
  t182 := Tryd.underlying109
  a182 := Tryd.isAgg109
  z182 := Tryd.sizeOf109
  v182 := Tryd.zeroValue109
  t183 := Tryd.underlying110
  a183 := Tryd.isAgg110
  z183 := Tryd.sizeOf110
  v183 := Tryd.zeroValue110
  t218 := Tryd.underlying127
  a218 := Tryd.isAgg127
  z218 := Tryd.sizeOf127
  v218 := Tryd.zeroValue127
  t222 := Tryd.underlying131
  a222 := Tryd.isAgg131
  z222 := Tryd.sizeOf131
  v222 := Tryd.zeroValue131
  t228 := Tryd.underlying135
  a228 := Tryd.isAgg135
  z228 := Tryd.sizeOf135
  v228 := Tryd.zeroValue135
  t229 := Tryd.underlying136
  a229 := Tryd.isAgg136
  z229 := Tryd.sizeOf136
  v229 := Tryd.zeroValue136 }
open Go.Sort Go.RowKit in
theorem Tryd.slices_Sort_string (blk off cap : Nat) (ss : List (List UInt8)) (w : World) (hH : Holds encStr w blk off ss.toArray) (hblk : blk < w.heap.size) (hsz : ss.length < 4611686018427387904) :
    Calls Tryd.prog 63 #[.slice (some ⟨blk, off, none⟩) ss.length cap] w fun e w' =>
      e = .returned (.tuple #[]) ∧ ∃ n os, w' = grow (putRow encStr (Sort.ahead w n) blk off (ss.mergeSort fun x y => decide (x ≤ y)).toArray) os := Any.slices_Sort_string Tryd.lays190 blk off cap ss w hH hblk hsz
open Go.RowKit Go.Sort in
/-- .. and plain. (LAID: no walk: one application.) -/
theorem Tryd.slices_Sort_string_none (p : Option Addr) (cap : Nat) (w : World) :
    Calls Tryd.prog 63 #[.slice p 0 cap] w fun e w' => e = .returned (.tuple #[]) ∧ w' = w := Any.slices_Sort_string_none Tryd.lays190 p cap w
end Go.Proofs
