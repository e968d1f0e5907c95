/- OWN WORK: a part of the proof of a law of the seat YtonmgdamojingaaGreatDoor: the rules by which the code is walked. -/
import Derived.Shelf.Strings.SlTrimAscii
import Derived.Shelf.Strings.Trim
import Derived.Shelf.Small.Utf8
import Derived.Shelf.Small.Strs
import Derived.Shelf.Strings.Search1
import Derived.Shelf.Strings.Search2
import Derived.Shelf.Strings.Search3
import Derived.Shelf.Sort.Plain
import Derived.Shelf.Slices.In.SortNone
import Derived.Test.YtonmgdamojingaaGreatDoorProg
namespace Go.Proofs
open Go.Shelf
def Tryz.lays160_ren : Go.Shelf.Ren := ⟨fun | 160 => 87 | 232 => 101 | 231 => 100 | 227 => 102 | 234 => 104 | 233 => 103 | 236 => 106 | 235 => 105 | 228 => 115 | 271 => 118 | 151 => 117 | 197 => 116 | 120 => 137 | 152 => 136 | 260 => 135 | 137 => 146 | 119 => 147 | 224 => 148 | 225 => 149 | 217 => 150 | 266 => 153 | n => n, fun | 9 => 9 | 4 => 4 | 3 => 3 | 5 => 5 | 117 => 149 | 116 => 148 | 0 => 0 | 124 => 152 | 21 => 21 | 105 => 163 | 46 => 158 | 119 => 190 | 139 => 193 | 138 => 192 | n => n, fun | 3 => 0 | 4 => 1 | n => n⟩
theorem Tryz.lays160 : Go.Proofs.Lays.n160 Tryz.prog Tryz.lays160_ren := {
  mixed := by kernel_rfl
  f119 := Tryz.func147.trans (congrArg some (by kernel_rfl))
  f120 := Tryz.func137.trans (congrArg some (by kernel_rfl))
  f137 := Tryz.func146.trans (congrArg some (by kernel_rfl))
  f151 := Tryz.func117.trans (congrArg some (by kernel_rfl))
  f152 := Tryz.func136.trans (congrArg some (by kernel_rfl))
  f160 := Tryz.func87.trans (congrArg some (by kernel_rfl))
  f197 := Tryz.func116.trans (congrArg some (by kernel_rfl))
  f217 := Tryz.func150.trans (congrArg some (by kernel_rfl))
  f224 := Tryz.func148.trans (congrArg some (by kernel_rfl))
  f225 := Tryz.func149.trans (congrArg some (by kernel_rfl))
  f227 := Tryz.func102.trans (congrArg some (by kernel_rfl))
  f228 := Tryz.func115.trans (congrArg some (by kernel_rfl))
  f231 := Tryz.func100.trans (congrArg some (by kernel_rfl))
  f232 := Tryz.func101.trans (congrArg some (by kernel_rfl))
  f233 := Tryz.func103.trans (congrArg some (by kernel_rfl))
  f234 := Tryz.func104.trans (congrArg some (by kernel_rfl))
  f235 := Tryz.func105.trans (congrArg some (by kernel_rfl))
  f236 := Tryz.func106.trans (congrArg some (by kernel_rfl))
  f260 := Tryz.func135.trans (congrArg some (by kernel_rfl))
  f266 := Tryz.func153.trans (congrArg some (by kernel_rfl))
  f271 := Tryz.func118.trans (congrArg some (by kernel_rfl))
  t0 := Tryz.underlying0
  a0 := Tryz.isAgg0
  z0 := Tryz.sizeOf0
  v0 := Tryz.zeroValue0
  t3 := Tryz.underlying3
  a3 := Tryz.isAgg3
  z3 := Tryz.sizeOf3
  v3 := Tryz.zeroValue3
  t4 := Tryz.underlying4
  a4 := Tryz.isAgg4
  z4 := Tryz.sizeOf4
  v4 := Tryz.zeroValue4
  t5 := Tryz.underlying5
  a5 := Tryz.isAgg5
  z5 := Tryz.sizeOf5
  v5 := Tryz.zeroValue5
  t9 := Tryz.underlying9
  a9 := Tryz.isAgg9
  z9 := Tryz.sizeOf9
  v9 := Tryz.zeroValue9
  t21 := Tryz.underlying21
  a21 := Tryz.isAgg21
  z21 := Tryz.sizeOf21
  v21 := Tryz.zeroValue21
  t46 := Tryz.underlying158
  a46 := Tryz.isAgg158
  z46 := Tryz.sizeOf158
  v46 := Tryz.zeroValue158
  t105 := Tryz.underlying163
  a105 := Tryz.isAgg163
  z105 := Tryz.sizeOf163
  v105 := Tryz.zeroValue163
  t116 := Tryz.underlying148
  a116 := Tryz.isAgg148
  z116 := Tryz.sizeOf148
  t117 := Tryz.underlying149
  a117 := Tryz.isAgg149
  z117 := Tryz.sizeOf149
  v117 := Tryz.zeroValue149
  t119 := Tryz.underlying190
  a119 := Tryz.isAgg190
  z119 := Tryz.sizeOf190
  t124 := Tryz.underlying152
  a124 := Tryz.isAgg152
  z124 := Tryz.sizeOf152
  v124 := Tryz.zeroValue152
  t138 := Tryz.underlying192
  a138 := Tryz.isAgg192
  z138 := Tryz.sizeOf192
  v138 := Tryz.zeroValue192
  t139 := Tryz.underlying193
  a139 := Tryz.isAgg193
  z139 := Tryz.sizeOf193
  v139 := Tryz.zeroValue193
  g3 := by kernel_rfl
  g4 := by kernel_rfl }
def Tryz.lays144_ren : Go.Shelf.Ren := ⟨fun | 144 => 108 | 143 => 119 | 219 => 138 | 217 => 150 | 225 => 149 | 224 => 148 | 267 => 151 | 266 => 153 | 314 => 154 | n => n, fun | 9 => 9 | 4 => 4 | 3 => 3 | 5 => 5 | 46 => 158 | 146 => 200 | 51 => 176 | n => n, fun | 1 => 2 | n => n⟩
theorem Tryz.lays144 : Go.Proofs.Lays.n144 Tryz.prog Tryz.lays144_ren := {
  mixed := by kernel_rfl
  f143 := Tryz.func119.trans (congrArg some (by kernel_rfl))
  f144 := Tryz.func108.trans (congrArg some (by kernel_rfl))
  f217 := Tryz.func150.trans (congrArg some (by kernel_rfl))
  f219 := Tryz.func138.trans (congrArg some (by kernel_rfl))
  f224 := Tryz.func148.trans (congrArg some (by kernel_rfl))
  f225 := Tryz.func149.trans (congrArg some (by kernel_rfl))
  f266 := Tryz.func153.trans (congrArg some (by kernel_rfl))
  f267 := Tryz.func151.trans (congrArg some (by kernel_rfl))
  f314 := Tryz.func154.trans (congrArg some (by kernel_rfl))
  t3 := Tryz.underlying3
  a3 := Tryz.isAgg3
  z3 := Tryz.sizeOf3
  v3 := Tryz.zeroValue3
  t4 := Tryz.underlying4
  a4 := Tryz.isAgg4
  z4 := Tryz.sizeOf4
  v4 := Tryz.zeroValue4
  t5 := Tryz.underlying5
  a5 := Tryz.isAgg5
  z5 := Tryz.sizeOf5
  v5 := Tryz.zeroValue5
  t9 := Tryz.underlying9
  a9 := Tryz.isAgg9
  z9 := Tryz.sizeOf9
  v9 := Tryz.zeroValue9
  t46 := Tryz.underlying158
  a46 := Tryz.isAgg158
  z46 := Tryz.sizeOf158
  v46 := Tryz.zeroValue158
  t51 := Tryz.underlying176
  a51 := Tryz.isAgg176
  z51 := Tryz.sizeOf176
  v51 := Tryz.zeroValue176
  t146 := Tryz.underlying200
  a146 := Tryz.isAgg200
  z146 := Tryz.sizeOf200
  v146 := Tryz.zeroValue200
  g1 := by kernel_rfl }
open Go.RowKit Go.Lib in
/-- strings.Contains: "Contains reports whether substr is within s.": AT A substr OF ONE BYTE c: IT RETURNS 'decide (0 ≤ Lib.indexByte s c)'; the world is as it was. (LAID: no walk: one application.) -/
theorem Tryz.strings_Contains_one (s : ByteArray) (c : UInt8) (w : World) :
    Calls Tryz.prog 108 #[.string s, .string ⟨#[c]⟩] w fun e w' => e = .returned (.bool (decide (0 ≤ Lib.indexByte s.data.toList c))) ∧ w' = w := Any.strings_Contains_one Tryz.lays144 s c w
def Tryz.lays190_ren : Go.Shelf.Ren := ⟨fun | 190 => 92 | 125 => 111 | 258 => 110 | 128 => 129 | 129 => 130 | 302 => 120 | 303 => 121 | 304 => 122 | 305 => 123 | 306 => 124 | 307 => 125 | 308 => 126 | 309 => 127 | 310 => 128 | 333 => 139 | 329 => 140 | 330 => 141 | 334 => 142 | 335 => 143 | 336 => 144 | 344 => 152 | n => n, fun | 31 => 67 | 9 => 9 | 3 => 3 | 46 => 158 | 0 => 0 | 51 => 176 | 53 => 178 | 4 => 4 | 183 => 169 | 182 => 168 | 131 => 173 | 5 => 5 | 218 => 183 | 222 => 187 | 228 => 197 | 229 => 198 | n => n, fun | n => n⟩
theorem Tryz.lays190 : Go.Proofs.Lays.n190 Tryz.prog Tryz.lays190_ren := {
  mixed := by kernel_rfl
  f125 := Tryz.func111.trans (congrArg some (by kernel_rfl))
  f128 := Tryz.func129.trans (congrArg some (by kernel_rfl))
  f129 := Tryz.func130.trans (congrArg some (by kernel_rfl))
  f190 := Tryz.func92.trans (congrArg some (by kernel_rfl))
  f258 := Tryz.func110.trans (congrArg some (by kernel_rfl))
  f302 := Tryz.func120.trans (congrArg some (by kernel_rfl))
  f303 := Tryz.func121.trans (congrArg some (by kernel_rfl))
  f304 := Tryz.func122.trans (congrArg some (by kernel_rfl))
  f305 := Tryz.func123.trans (congrArg some (by kernel_rfl))
  f306 := Tryz.func124.trans (congrArg some (by kernel_rfl))
  f307 := Tryz.func125.trans (congrArg some (by kernel_rfl))
  f308 := Tryz.func126.trans (congrArg some (by kernel_rfl))
  f309 := Tryz.func127.trans (congrArg some (by kernel_rfl))
  f310 := Tryz.func128.trans (congrArg some (by kernel_rfl))
  f329 := Tryz.func140.trans (congrArg some (by kernel_rfl))
  f330 := Tryz.func141.trans (congrArg some (by kernel_rfl))
  f333 := Tryz.func139.trans (congrArg some (by kernel_rfl))
  f334 := Tryz.func142.trans (congrArg some (by kernel_rfl))
  f335 := Tryz.func143.trans (congrArg some (by kernel_rfl))
  f336 := Tryz.func144.trans (congrArg some (by kernel_rfl))
  f344 := Tryz.func152.trans (congrArg some (by kernel_rfl))
  t0 := Tryz.underlying0
  a0 := Tryz.isAgg0
  z0 := Tryz.sizeOf0
  v0 := Tryz.zeroValue0
  t3 := Tryz.underlying3
  a3 := Tryz.isAgg3
  z3 := Tryz.sizeOf3
  v3 := Tryz.zeroValue3
  t4 := Tryz.underlying4
  a4 := Tryz.isAgg4
  z4 := Tryz.sizeOf4
  v4 := Tryz.zeroValue4
  t5 := Tryz.underlying5
  a5 := Tryz.isAgg5
  z5 := Tryz.sizeOf5
  v5 := Tryz.zeroValue5
  t9 := Tryz.underlying9
  a9 := Tryz.isAgg9
  z9 := Tryz.sizeOf9
  v9 := Tryz.zeroValue9
  t31 := Tryz.underlying67
  a31 := Tryz.isAgg67
  z31 := Tryz.sizeOf67
  v31 := Tryz.zeroValue67
  t46 := Tryz.underlying158
  a46 := Tryz.isAgg158
  z46 := Tryz.sizeOf158
  v46 := Tryz.zeroValue158
  t51 := Tryz.underlying176
  a51 := Tryz.isAgg176
  z51 := Tryz.sizeOf176
  v51 := Tryz.zeroValue176
  t53 := Tryz.underlying178
  a53 := Tryz.isAgg178
  z53 := Tryz.sizeOf178
  v53 := Tryz.zeroValue178
  t131 := Tryz.underlying173
  a131 := Tryz.isAgg173
  z131 := Tryz.sizeOf173
  v131 := Tryz.zeroValue173
  t182 := Tryz.underlying168
  a182 := Tryz.isAgg168
  z182 := Tryz.sizeOf168
  v182 := Tryz.zeroValue168
  t183 := Tryz.underlying169
  a183 := Tryz.isAgg169
  z183 := Tryz.sizeOf169
  v183 := Tryz.zeroValue169
  t218 := Tryz.underlying183
  a218 := Tryz.isAgg183
  z218 := Tryz.sizeOf183
  v218 := Tryz.zeroValue183
  t222 := Tryz.underlying187
  a222 := Tryz.isAgg187
  z222 := Tryz.sizeOf187
  v222 := Tryz.zeroValue187
  t228 := Tryz.underlying197
  a228 := Tryz.isAgg197
  z228 := Tryz.sizeOf197
  v228 := Tryz.zeroValue197
  t229 := Tryz.underlying198
  a229 := Tryz.isAgg198
  z229 := Tryz.sizeOf198
  v229 := Tryz.zeroValue198 }
open Go.Sort Go.RowKit in
theorem Tryz.slices_Sort_string (blk off cap : Nat) (ss : List (List UInt8)) (w : World) (hH : Holds encStr w blk off ss.toArray) (hblk : blk < w.heap.size) (hsz : ss.length < 4611686018427387904) :
    Calls Tryz.prog 92 #[.slice (some ⟨blk, off, none⟩) ss.length cap] w fun e w' =>
      e = .returned (.tuple #[]) ∧ ∃ n os, w' = grow (putRow encStr (Sort.ahead w n) blk off (ss.mergeSort fun x y => decide (x ≤ y)).toArray) os := Any.slices_Sort_string Tryz.lays190 blk off cap ss w hH hblk hsz
open Go.RowKit Go.Sort in
/-- .. and plain. (LAID: no walk: one application.) -/
theorem Tryz.slices_Sort_string_none (p : Option Addr) (cap : Nat) (w : World) :
    Calls Tryz.prog 92 #[.slice p 0 cap] w fun e w' => e = .returned (.tuple #[]) ∧ w' = w := Any.slices_Sort_string_none Tryz.lays190 p cap w
end Go.Proofs
