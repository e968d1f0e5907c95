/- OWN WORK: a part of the proof of a law of the seat YtgjbcigeecbfiaaGreatDoor: the rules by which the code is walked. -/
import Derived.Shelf.Strings.SlTrimAscii
import Derived.Shelf.Strings.Trim
import Derived.Shelf.Small.Utf8
import Derived.Shelf.Small.Strs
import Derived.Shelf.Strconv.Itoa3
import Derived.Shelf.Strings.Search1
import Derived.Shelf.Strings.Search2
import Derived.Shelf.Strings.Search3
import Derived.Shelf.Sort.Plain
import Derived.Shelf.Slices.In.SortNone
import Derived.Test.YtgjbcigeecbfiaaGreatDoorProg
namespace Go.Proofs
open Go.Shelf
def Tryz.lays160_ren : Go.Shelf.Ren := ⟨fun | 160 => 65 | 232 => 83 | 231 => 82 | 227 => 84 | 234 => 86 | 233 => 85 | 236 => 88 | 235 => 87 | 228 => 98 | 271 => 101 | 151 => 100 | 197 => 99 | 120 => 122 | 152 => 121 | 260 => 120 | 137 => 134 | 119 => 135 | 224 => 136 | 225 => 137 | 217 => 138 | 266 => 143 | n => n, fun | 9 => 9 | 4 => 4 | 3 => 3 | 5 => 5 | 117 => 115 | 116 => 114 | 0 => 0 | 124 => 118 | 21 => 21 | 105 => 128 | 46 => 123 | 119 => 162 | 139 => 165 | 138 => 164 | n => n, fun | 3 => 1 | 4 => 2 | n => n⟩
theorem Tryz.lays160 : Go.Proofs.Lays.n160 Tryz.prog Tryz.lays160_ren := {
  mixed := by kernel_rfl
  f119 := Tryz.func135.trans (congrArg some (by kernel_rfl))
  f120 := Tryz.func122.trans (congrArg some (by kernel_rfl))
  f137 := Tryz.func134.trans (congrArg some (by kernel_rfl))
  f151 := Tryz.func100.trans (congrArg some (by kernel_rfl))
  f152 := Tryz.func121.trans (congrArg some (by kernel_rfl))
  f160 := Tryz.func65.trans (congrArg some (by kernel_rfl))
  f197 := Tryz.func99.trans (congrArg some (by kernel_rfl))
  f217 := Tryz.func138.trans (congrArg some (by kernel_rfl))
  f224 := Tryz.func136.trans (congrArg some (by kernel_rfl))
  f225 := Tryz.func137.trans (congrArg some (by kernel_rfl))
  f227 := Tryz.func84.trans (congrArg some (by kernel_rfl))
  f228 := Tryz.func98.trans (congrArg some (by kernel_rfl))
  f231 := Tryz.func82.trans (congrArg some (by kernel_rfl))
  f232 := Tryz.func83.trans (congrArg some (by kernel_rfl))
  f233 := Tryz.func85.trans (congrArg some (by kernel_rfl))
  f234 := Tryz.func86.trans (congrArg some (by kernel_rfl))
  f235 := Tryz.func87.trans (congrArg some (by kernel_rfl))
  f236 := Tryz.func88.trans (congrArg some (by kernel_rfl))
  f260 := Tryz.func120.trans (congrArg some (by kernel_rfl))
  f266 := Tryz.func143.trans (congrArg some (by kernel_rfl))
  f271 := Tryz.func101.trans (congrArg some (by kernel_rfl))
  t0 := Tryz.underlying0
  a0 := Tryz.isAgg0
  z0 := Tryz.sizeOf0
  v0 := Tryz.zeroValue0
  t3 := Tryz.underlying3
  a3 := Tryz.isAgg3
  z3 := Tryz.sizeOf3
  v3 := Tryz.zeroValue3
  t4 := Tryz.underlying4
  a4 := Tryz.isAgg4
  z4 := Tryz.sizeOf4
  v4 := Tryz.zeroValue4
  t5 := Tryz.underlying5
  a5 := Tryz.isAgg5
  z5 := Tryz.sizeOf5
  v5 := Tryz.zeroValue5
  t9 := Tryz.underlying9
  a9 := Tryz.isAgg9
  z9 := Tryz.sizeOf9
  v9 := Tryz.zeroValue9
  t21 := Tryz.underlying21
  a21 := Tryz.isAgg21
  z21 := Tryz.sizeOf21
  v21 := Tryz.zeroValue21
  t46 := Tryz.underlying123
  a46 := Tryz.isAgg123
  z46 := Tryz.sizeOf123
  v46 := Tryz.zeroValue123
  t105 := Tryz.underlying128
  a105 := Tryz.isAgg128
  z105 := Tryz.sizeOf128
  v105 := Tryz.zeroValue128
  t116 := Tryz.underlying114
  a116 := Tryz.isAgg114
  z116 := Tryz.sizeOf114
  t117 := Tryz.underlying115
  a117 := Tryz.isAgg115
  z117 := Tryz.sizeOf115
  v117 := Tryz.zeroValue115
  t119 := Tryz.underlying162
  a119 := Tryz.isAgg162
  z119 := Tryz.sizeOf162
  t124 := Tryz.underlying118
  a124 := Tryz.isAgg118
  z124 := Tryz.sizeOf118
  v124 := Tryz.zeroValue118
  t138 := Tryz.underlying164
  a138 := Tryz.isAgg164
  z138 := Tryz.sizeOf164
  v138 := Tryz.zeroValue164
  t139 := Tryz.underlying165
  a139 := Tryz.isAgg165
  z139 := Tryz.sizeOf165
  v139 := Tryz.zeroValue165
  g3 := by kernel_rfl
  g4 := by kernel_rfl }
def Tryz.lays171_ren : Go.Shelf.Ren := ⟨fun | 171 => 57 | 243 => 79 | 246 => 97 | 283 => 116 | 284 => 117 | 285 => 118 | 286 => 119 | 129 => 114 | 317 => 130 | 318 => 131 | 319 => 132 | 320 => 133 | 337 => 141 | 338 => 142 | n => n, fun | 3 => 3 | 9 => 9 | 2 => 2 | 4 => 4 | 171 => 146 | 0 => 0 | 53 => 144 | 37 => 87 | 5 => 5 | 173 => 148 | 212 => 159 | 51 => 142 | 20 => 20 | 213 => 160 | 46 => 123 | 232 => 172 | 233 => 173 | n => n, fun | 17 => 0 | 18 => 4 | 19 => 5 | n => n⟩
theorem Tryz.lays171 : Go.Proofs.Lays.n171 Tryz.prog Tryz.lays171_ren := {
  mixed := by kernel_rfl
  f129 := Tryz.func114.trans (congrArg some (by kernel_rfl))
  f171 := Tryz.func57.trans (congrArg some (by kernel_rfl))
  f243 := Tryz.func79.trans (congrArg some (by kernel_rfl))
  f246 := Tryz.func97.trans (congrArg some (by kernel_rfl))
  f283 := Tryz.func116.trans (congrArg some (by kernel_rfl))
  f284 := Tryz.func117.trans (congrArg some (by kernel_rfl))
  f285 := Tryz.func118.trans (congrArg some (by kernel_rfl))
  f286 := Tryz.func119.trans (congrArg some (by kernel_rfl))
  f317 := Tryz.func130.trans (congrArg some (by kernel_rfl))
  f318 := Tryz.func131.trans (congrArg some (by kernel_rfl))
  f319 := Tryz.func132.trans (congrArg some (by kernel_rfl))
  f320 := Tryz.func133.trans (congrArg some (by kernel_rfl))
  f337 := Tryz.func141.trans (congrArg some (by kernel_rfl))
  f338 := Tryz.func142.trans (congrArg some (by kernel_rfl))
  t0 := Tryz.underlying0
  a0 := Tryz.isAgg0
  z0 := Tryz.sizeOf0
  v0 := Tryz.zeroValue0
  t2 := Tryz.underlying2
  a2 := Tryz.isAgg2
  z2 := Tryz.sizeOf2
  v2 := Tryz.zeroValue2
  t3 := Tryz.underlying3
  a3 := Tryz.isAgg3
  z3 := Tryz.sizeOf3
  v3 := Tryz.zeroValue3
  t4 := Tryz.underlying4
  a4 := Tryz.isAgg4
  z4 := Tryz.sizeOf4
  v4 := Tryz.zeroValue4
  t5 := Tryz.underlying5
  a5 := Tryz.isAgg5
  z5 := Tryz.sizeOf5
  v5 := Tryz.zeroValue5
  t9 := Tryz.underlying9
  a9 := Tryz.isAgg9
  z9 := Tryz.sizeOf9
  v9 := Tryz.zeroValue9
  t20 := Tryz.underlying20
  a20 := Tryz.isAgg20
  z20 := Tryz.sizeOf20
  v20 := Tryz.zeroValue20
  t37 := Tryz.underlying87
  a37 := Tryz.isAgg87
  z37 := Tryz.sizeOf87
  v37 := Tryz.zeroValue87
  t46 := Tryz.underlying123
  a46 := Tryz.isAgg123
  z46 := Tryz.sizeOf123
  v46 := Tryz.zeroValue123
  t51 := Tryz.underlying142
  a51 := Tryz.isAgg142
  z51 := Tryz.sizeOf142
  v51 := Tryz.zeroValue142
  t53 := Tryz.underlying144
  a53 := Tryz.isAgg144
  z53 := Tryz.sizeOf144
  v53 := Tryz.zeroValue144
  t171 := Tryz.underlying146
  a171 := Tryz.isAgg146
  z171 := Tryz.sizeOf146
  v171 := Tryz.zeroValue146
  t173 := Tryz.underlying148
  a173 := Tryz.isAgg148
  z173 := Tryz.sizeOf148
  v173 := Tryz.zeroValue148
  t212 := Tryz.underlying159
  a212 := Tryz.isAgg159
  z212 := Tryz.sizeOf159
  v212 := Tryz.zeroValue159
  t213 := Tryz.underlying160
  a213 := Tryz.isAgg160
  z213 := Tryz.sizeOf160
  t232 := Tryz.underlying172
  a232 := Tryz.isAgg172
  z232 := Tryz.sizeOf172
  v232 := Tryz.zeroValue172
  t233 := Tryz.underlying173
  a233 := Tryz.isAgg173
  z233 := Tryz.sizeOf173
  v233 := Tryz.zeroValue173
  g17 := by kernel_rfl
  g18 := by kernel_rfl
  g19 := by kernel_rfl }
open Go.RowKit Go.Sort Go.Lib in
/-- THE ROAD WITHOUT THE TABLE: 0 <= i < 100: NO PREMISE ON THE WORLD, AND THE WORLD IS AS IT WAS: a row that keeps its argument in that range need list no table ('laid = []'). (LAID: no walk: one application.) -/
theorem Tryz.strconv_Itoa_small (i : Nat) (hi : i < 100) (w : World) :
    Calls Tryz.prog 57 #[.int .i64 i] w fun e w' => e = .returned (.string ⟨(Lib.decDigits i).toArray⟩) ∧ w' = w := Any.strconv_Itoa_small Tryz.lays171 i hi w
def Tryz.lays144_ren : Go.Shelf.Ren := ⟨fun | 144 => 90 | 143 => 102 | 219 => 123 | 217 => 138 | 225 => 137 | 224 => 136 | 267 => 139 | 266 => 143 | 314 => 144 | n => n, fun | 9 => 9 | 4 => 4 | 3 => 3 | 5 => 5 | 46 => 123 | 146 => 170 | 51 => 142 | n => n, fun | 1 => 3 | n => n⟩
theorem Tryz.lays144 : Go.Proofs.Lays.n144 Tryz.prog Tryz.lays144_ren := {
  mixed := by kernel_rfl
  f143 := Tryz.func102.trans (congrArg some (by kernel_rfl))
  f144 := Tryz.func90.trans (congrArg some (by kernel_rfl))
  f217 := Tryz.func138.trans (congrArg some (by kernel_rfl))
  f219 := Tryz.func123.trans (congrArg some (by kernel_rfl))
  f224 := Tryz.func136.trans (congrArg some (by kernel_rfl))
  f225 := Tryz.func137.trans (congrArg some (by kernel_rfl))
  f266 := Tryz.func143.trans (congrArg some (by kernel_rfl))
  f267 := Tryz.func139.trans (congrArg some (by kernel_rfl))
  f314 := Tryz.func144.trans (congrArg some (by kernel_rfl))
  t3 := Tryz.underlying3
  a3 := Tryz.isAgg3
  z3 := Tryz.sizeOf3
  v3 := Tryz.zeroValue3
  t4 := Tryz.underlying4
  a4 := Tryz.isAgg4
  z4 := Tryz.sizeOf4
  v4 := Tryz.zeroValue4
  t5 := Tryz.underlying5
  a5 := Tryz.isAgg5
  z5 := Tryz.sizeOf5
  v5 := Tryz.zeroValue5
  t9 := Tryz.underlying9
  a9 := Tryz.isAgg9
  z9 := Tryz.sizeOf9
  v9 := Tryz.zeroValue9
  t46 := Tryz.underlying123
  a46 := Tryz.isAgg123
  z46 := Tryz.sizeOf123
  v46 := Tryz.zeroValue123
  t51 := Tryz.underlying142
  a51 := Tryz.isAgg142
  z51 := Tryz.sizeOf142
  v51 := Tryz.zeroValue142
  t146 := Tryz.underlying170
  a146 := Tryz.isAgg170
  z146 := Tryz.sizeOf170
  v146 := Tryz.zeroValue170
  g1 := by kernel_rfl }
open Go.RowKit Go.Lib in
/-- strings.Contains: "Contains reports whether substr is within s.": AT A substr OF ONE BYTE c: IT RETURNS 'decide (0 ≤ Lib.indexByte s c)'; the world is as it was. (LAID: no walk: one application.) -/
theorem Tryz.strings_Contains_one (s : ByteArray) (c : UInt8) (w : World) :
    Calls Tryz.prog 90 #[.string s, .string ⟨#[c]⟩] w fun e w' => e = .returned (.bool (decide (0 ≤ Lib.indexByte s.data.toList c))) ∧ w' = w := Any.strings_Contains_one Tryz.lays144 s c w
def Tryz.lays190_ren : Go.Shelf.Ren := ⟨fun | 190 => 73 | 125 => 94 | 258 => 93 | 128 => 113 | 129 => 114 | 302 => 104 | 303 => 105 | 304 => 106 | 305 => 107 | 306 => 108 | 307 => 109 | 308 => 110 | 309 => 111 | 310 => 112 | 333 => 124 | 329 => 125 | 330 => 126 | 334 => 127 | 335 => 128 | 336 => 129 | 344 => 140 | n => n, fun | 31 => 35 | 9 => 9 | 3 => 3 | 46 => 123 | 0 => 0 | 51 => 142 | 53 => 144 | 4 => 4 | 183 => 135 | 182 => 134 | 131 => 139 | 5 => 5 | 218 => 151 | 222 => 155 | 228 => 168 | 229 => 45 | n => n, fun | n => n⟩
theorem Tryz.lays190 : Go.Proofs.Lays.n190 Tryz.prog Tryz.lays190_ren := {
  mixed := by kernel_rfl
  f125 := Tryz.func94.trans (congrArg some (by kernel_rfl))
  f128 := Tryz.func113.trans (congrArg some (by kernel_rfl))
  f129 := Tryz.func114.trans (congrArg some (by kernel_rfl))
  f190 := Tryz.func73.trans (congrArg some (by kernel_rfl))
  f258 := Tryz.func93.trans (congrArg some (by kernel_rfl))
  f302 := Tryz.func104.trans (congrArg some (by kernel_rfl))
  f303 := Tryz.func105.trans (congrArg some (by kernel_rfl))
  f304 := Tryz.func106.trans (congrArg some (by kernel_rfl))
  f305 := Tryz.func107.trans (congrArg some (by kernel_rfl))
  f306 := Tryz.func108.trans (congrArg some (by kernel_rfl))
  f307 := Tryz.func109.trans (congrArg some (by kernel_rfl))
  f308 := Tryz.func110.trans (congrArg some (by kernel_rfl))
  f309 := Tryz.func111.trans (congrArg some (by kernel_rfl))
  f310 := Tryz.func112.trans (congrArg some (by kernel_rfl))
  f329 := Tryz.func125.trans (congrArg some (by kernel_rfl))
  f330 := Tryz.func126.trans (congrArg some (by kernel_rfl))
  f333 := Tryz.func124.trans (congrArg some (by kernel_rfl))
  f334 := Tryz.func127.trans (congrArg some (by kernel_rfl))
  f335 := Tryz.func128.trans (congrArg some (by kernel_rfl))
  f336 := Tryz.func129.trans (congrArg some (by kernel_rfl))
  f344 := Tryz.func140.trans (congrArg some (by kernel_rfl))
  t0 := Tryz.underlying0
  a0 := Tryz.isAgg0
  z0 := Tryz.sizeOf0
  v0 := Tryz.zeroValue0
  t3 := Tryz.underlying3
  a3 := Tryz.isAgg3
  z3 := Tryz.sizeOf3
  v3 := Tryz.zeroValue3
  t4 := Tryz.underlying4
  a4 := Tryz.isAgg4
  z4 := Tryz.sizeOf4
  v4 := Tryz.zeroValue4
  t5 := Tryz.underlying5
  a5 := Tryz.isAgg5
  z5 := Tryz.sizeOf5
  v5 := Tryz.zeroValue5
  t9 := Tryz.underlying9
  a9 := Tryz.isAgg9
  z9 := Tryz.sizeOf9
  v9 := Tryz.zeroValue9
  t31 := Tryz.underlying35
  a31 := Tryz.isAgg35
  z31 := Tryz.sizeOf35
  v31 := Tryz.zeroValue35
  t46 := Tryz.underlying123
  a46 := Tryz.isAgg123
  z46 := Tryz.sizeOf123
  v46 := Tryz.zeroValue123
  t51 := Tryz.underlying142
  a51 := Tryz.isAgg142
  z51 := Tryz.sizeOf142
  v51 := Tryz.zeroValue142
  t53 := Tryz.underlying144
  a53 := Tryz.isAgg144
  z53 := Tryz.sizeOf144
  v53 := Tryz.zeroValue144
  t131 := Tryz.underlying139
  a131 := Tryz.isAgg139
  z131 := Tryz.sizeOf139
  v131 := Tryz.zeroValue139
  t182 := Tryz.underlying134
  a182 := Tryz.isAgg134
  z182 := Tryz.sizeOf134
  v182 := Tryz.zeroValue134
  t183 := Tryz.underlying135
  a183 := Tryz.isAgg135
  z183 := Tryz.sizeOf135
  v183 := Tryz.zeroValue135
  t218 := Tryz.underlying151
  a218 := Tryz.isAgg151
  z218 := Tryz.sizeOf151
  v218 := Tryz.zeroValue151
  t222 := Tryz.underlying155
  a222 := Tryz.isAgg155
  z222 := Tryz.sizeOf155
  v222 := Tryz.zeroValue155
  t228 := Tryz.underlying168
  a228 := Tryz.isAgg168
  z228 := Tryz.sizeOf168
  v228 := Tryz.zeroValue168
  t229 := Tryz.underlying45
  a229 := Tryz.isAgg45
  z229 := Tryz.sizeOf45
  v229 := Tryz.zeroValue45 }
open Go.Sort Go.RowKit in
theorem Tryz.slices_Sort_string (blk off cap : Nat) (ss : List (List UInt8)) (w : World) (hH : Holds encStr w blk off ss.toArray) (hblk : blk < w.heap.size) (hsz : ss.length < 4611686018427387904) :
    Calls Tryz.prog 73 #[.slice (some ⟨blk, off, none⟩) ss.length cap] w fun e w' =>
      e = .returned (.tuple #[]) ∧ ∃ n os, w' = grow (putRow encStr (Sort.ahead w n) blk off (ss.mergeSort fun x y => decide (x ≤ y)).toArray) os := Any.slices_Sort_string Tryz.lays190 blk off cap ss w hH hblk hsz
open Go.RowKit Go.Sort in
/-- .. and plain. (LAID: no walk: one application.) -/
theorem Tryz.slices_Sort_string_none (p : Option Addr) (cap : Nat) (w : World) :
    Calls Tryz.prog 73 #[.slice p 0 cap] w fun e w' => e = .returned (.tuple #[]) ∧ w' = w := Any.slices_Sort_string_none Tryz.lays190 p cap w
end Go.Proofs
