/- OWN WORK: a part of the proof of a law of the seat YtjeampaghmcefaaGreatDoor: the rules by which the code is walked. -/
import Derived.Shelf.Strings.SlTrimAscii
import Derived.Shelf.Strings.Trim
import Derived.Shelf.Small.Utf8
import Derived.Shelf.Small.Strs
import Derived.Shelf.Strings.Search1
import Derived.Shelf.Strings.Search2
import Derived.Shelf.Strings.Search3
import Derived.Shelf.Sort.Plain
import Derived.Ground.Names2Prog
import Derived.Shelf.Slices.In.SortNone
import Derived.Ground.SlgnProg
import Derived.Test.YtjeampaghmcefaaGreatDoorProg
namespace Go.Proofs
open Go.Shelf
def Tryz.lays160_ren : Go.Shelf.Ren := ⟨fun | 160 => 102 | 232 => 125 | 231 => 124 | 227 => 126 | 234 => 128 | 233 => 127 | 236 => 130 | 235 => 129 | 228 => 138 | 271 => 141 | 151 => 140 | 197 => 139 | 120 => 156 | 152 => 155 | 260 => 154 | 137 => 167 | 119 => 168 | 224 => 159 | 225 => 158 | 217 => 157 | 266 => 169 | n => n, fun | 9 => 9 | 4 => 4 | 3 => 3 | 5 => 5 | 117 => 175 | 116 => 174 | 0 => 0 | 124 => 178 | 21 => 21 | 105 => 188 | 46 => 186 | 119 => 212 | 139 => 215 | 138 => 214 | n => n, fun | 3 => 1 | 4 => 2 | n => n⟩
theorem Tryz.lays160 : Go.Proofs.Lays.n160 Tryz.prog Tryz.lays160_ren := {
  mixed := by kernel_rfl
  f119 := Tryz.func168.trans (congrArg some (by kernel_rfl))
  f120 := Tryz.func156.trans (congrArg some (by kernel_rfl))
  f137 := Tryz.func167.trans (congrArg some (by kernel_rfl))
  f151 := Tryz.func140.trans (congrArg some (by kernel_rfl))
  f152 := Tryz.func155.trans (congrArg some (by kernel_rfl))
  f160 := Tryz.func102.trans (congrArg some (by kernel_rfl))
  f197 := Tryz.func139.trans (congrArg some (by kernel_rfl))
  f217 := Tryz.func157.trans (congrArg some (by kernel_rfl))
  f224 := Tryz.func159.trans (congrArg some (by kernel_rfl))
  f225 := Tryz.func158.trans (congrArg some (by kernel_rfl))
  f227 := Tryz.func126.trans (congrArg some (by kernel_rfl))
  f228 := Tryz.func138.trans (congrArg some (by kernel_rfl))
  f231 := Tryz.func124.trans (congrArg some (by kernel_rfl))
  f232 := Tryz.func125.trans (congrArg some (by kernel_rfl))
  f233 := Tryz.func127.trans (congrArg some (by kernel_rfl))
  f234 := Tryz.func128.trans (congrArg some (by kernel_rfl))
  f235 := Tryz.func129.trans (congrArg some (by kernel_rfl))
  f236 := Tryz.func130.trans (congrArg some (by kernel_rfl))
  f260 := Tryz.func154.trans (congrArg some (by kernel_rfl))
  f266 := Tryz.func169.trans (congrArg some (by kernel_rfl))
  f271 := Tryz.func141.trans (congrArg some (by kernel_rfl))
  t0 := Tryz.underlying0
  a0 := Tryz.isAgg0
  z0 := Tryz.sizeOf0
  v0 := Tryz.zeroValue0
  t3 := Tryz.underlying3
  a3 := Tryz.isAgg3
  z3 := Tryz.sizeOf3
  v3 := Tryz.zeroValue3
  t4 := Tryz.underlying4
  a4 := Tryz.isAgg4
  z4 := Tryz.sizeOf4
  v4 := Tryz.zeroValue4
  t5 := Tryz.underlying5
  a5 := Tryz.isAgg5
  z5 := Tryz.sizeOf5
  v5 := Tryz.zeroValue5
  t9 := Tryz.underlying9
  a9 := Tryz.isAgg9
  z9 := Tryz.sizeOf9
  v9 := Tryz.zeroValue9
  t21 := Tryz.underlying21
  a21 := Tryz.isAgg21
  z21 := Tryz.sizeOf21
  v21 := Tryz.zeroValue21
  t46 := Tryz.underlying186
  a46 := Tryz.isAgg186
  z46 := Tryz.sizeOf186
  v46 := Tryz.zeroValue186
  t105 := Tryz.underlying188
  a105 := Tryz.isAgg188
  z105 := Tryz.sizeOf188
  v105 := Tryz.zeroValue188
  t116 := Tryz.underlying174
  a116 := Tryz.isAgg174
  z116 := Tryz.sizeOf174
  t117 := Tryz.underlying175
  a117 := Tryz.isAgg175
  z117 := Tryz.sizeOf175
  v117 := Tryz.zeroValue175
  t119 := Tryz.underlying212
  a119 := Tryz.isAgg212
  z119 := Tryz.sizeOf212
  t124 := Tryz.underlying178
  a124 := Tryz.isAgg178
  z124 := Tryz.sizeOf178
  v124 := Tryz.zeroValue178
  t138 := Tryz.underlying214
  a138 := Tryz.isAgg214
  z138 := Tryz.sizeOf214
  v138 := Tryz.zeroValue214
  t139 := Tryz.underlying215
  a139 := Tryz.isAgg215
  z139 := Tryz.sizeOf215
  v139 := Tryz.zeroValue215
  g3 := by kernel_rfl
  g4 := by kernel_rfl }
def Tryz.lays144_ren : Go.Shelf.Ren := ⟨fun | 144 => 116 | 143 => 133 | 219 => 142 | 217 => 157 | 225 => 158 | 224 => 159 | 267 => 160 | 266 => 169 | 314 => 170 | n => n, fun | 9 => 9 | 4 => 4 | 3 => 3 | 5 => 5 | 46 => 186 | 146 => 217 | 51 => 200 | n => n, fun | 1 => 0 | n => n⟩
theorem Tryz.lays144 : Go.Proofs.Lays.n144 Tryz.prog Tryz.lays144_ren := {
  mixed := by kernel_rfl
  f143 := Tryz.func133.trans (congrArg some (by kernel_rfl))
  f144 := Tryz.func116.trans (congrArg some (by kernel_rfl))
  f217 := Tryz.func157.trans (congrArg some (by kernel_rfl))
  f219 := Tryz.func142.trans (congrArg some (by kernel_rfl))
  f224 := Tryz.func159.trans (congrArg some (by kernel_rfl))
  f225 := Tryz.func158.trans (congrArg some (by kernel_rfl))
  f266 := Tryz.func169.trans (congrArg some (by kernel_rfl))
  f267 := Tryz.func160.trans (congrArg some (by kernel_rfl))
  f314 := Tryz.func170.trans (congrArg some (by kernel_rfl))
  t3 := Tryz.underlying3
  a3 := Tryz.isAgg3
  z3 := Tryz.sizeOf3
  v3 := Tryz.zeroValue3
  t4 := Tryz.underlying4
  a4 := Tryz.isAgg4
  z4 := Tryz.sizeOf4
  v4 := Tryz.zeroValue4
  t5 := Tryz.underlying5
  a5 := Tryz.isAgg5
  z5 := Tryz.sizeOf5
  v5 := Tryz.zeroValue5
  t9 := Tryz.underlying9
  a9 := Tryz.isAgg9
  z9 := Tryz.sizeOf9
  v9 := Tryz.zeroValue9
  t46 := Tryz.underlying186
  a46 := Tryz.isAgg186
  z46 := Tryz.sizeOf186
  v46 := Tryz.zeroValue186
  t51 := Tryz.underlying200
  a51 := Tryz.isAgg200
  z51 := Tryz.sizeOf200
  v51 := Tryz.zeroValue200
  t146 := Tryz.underlying217
  a146 := Tryz.isAgg217
  z146 := Tryz.sizeOf217
  v146 := Tryz.zeroValue217
  g1 := by kernel_rfl }
open Go.RowKit Go.Lib in
theorem Tryz.strings_Contains_one (s : ByteArray) (c : UInt8) (w : World) :
    Calls Tryz.prog 116 #[.string s, .string ⟨#[c]⟩] w fun e w' => e = .returned (.bool (decide (0 ≤ Lib.indexByte s.data.toList c))) ∧ w' = w := Any.strings_Contains_one Tryz.lays144 s c w
def Tryz.lays190_ren : Go.Shelf.Ren := ⟨fun | 190 => 122 | 125 => 137 | 258 => 136 | 128 => 152 | 129 => 153 | 302 => 143 | 303 => 144 | 304 => 145 | 305 => 146 | 306 => 147 | 307 => 148 | 308 => 149 | 309 => 150 | 310 => 151 | 333 => 161 | 329 => 162 | 330 => 163 | 334 => 164 | 335 => 165 | 336 => 166 | 344 => 171 | n => n, fun | 31 => 23 | 9 => 9 | 3 => 3 | 46 => 186 | 0 => 0 | 51 => 200 | 53 => 202 | 4 => 4 | 183 => 193 | 182 => 192 | 131 => 197 | 5 => 5 | 218 => 206 | 222 => 210 | 228 => 219 | 229 => 220 | n => n, fun | n => n⟩
theorem Tryz.lays190 : Go.Proofs.Lays.n190 Tryz.prog Tryz.lays190_ren := {
  mixed := by kernel_rfl
  f125 := Tryz.func137.trans (congrArg some (by kernel_rfl))
  f128 := Tryz.func152.trans (congrArg some (by kernel_rfl))
  f129 := Tryz.func153.trans (congrArg some (by kernel_rfl))
  f190 := Tryz.func122.trans (congrArg some (by kernel_rfl))
  f258 := Tryz.func136.trans (congrArg some (by kernel_rfl))
  f302 := Tryz.func143.trans (congrArg some (by kernel_rfl))
  f303 := Tryz.func144.trans (congrArg some (by kernel_rfl))
  f304 := Tryz.func145.trans (congrArg some (by kernel_rfl))
  f305 := Tryz.func146.trans (congrArg some (by kernel_rfl))
  f306 := Tryz.func147.trans (congrArg some (by kernel_rfl))
  f307 := Tryz.func148.trans (congrArg some (by kernel_rfl))
  f308 := Tryz.func149.trans (congrArg some (by kernel_rfl))
  f309 := Tryz.func150.trans (congrArg some (by kernel_rfl))
  f310 := Tryz.func151.trans (congrArg some (by kernel_rfl))
  f329 := Tryz.func162.trans (congrArg some (by kernel_rfl))
  f330 := Tryz.func163.trans (congrArg some (by kernel_rfl))
  f333 := Tryz.func161.trans (congrArg some (by kernel_rfl))
  f334 := Tryz.func164.trans (congrArg some (by kernel_rfl))
  f335 := Tryz.func165.trans (congrArg some (by kernel_rfl))
  f336 := Tryz.func166.trans (congrArg some (by kernel_rfl))
  f344 := Tryz.func171.trans (congrArg some (by kernel_rfl))
  t0 := Tryz.underlying0
  a0 := Tryz.isAgg0
  z0 := Tryz.sizeOf0
  v0 := Tryz.zeroValue0
  t3 := Tryz.underlying3
  a3 := Tryz.isAgg3
  z3 := Tryz.sizeOf3
  v3 := Tryz.zeroValue3
  t4 := Tryz.underlying4
  a4 := Tryz.isAgg4
  z4 := Tryz.sizeOf4
  v4 := Tryz.zeroValue4
  t5 := Tryz.underlying5
  a5 := Tryz.isAgg5
  z5 := Tryz.sizeOf5
  v5 := Tryz.zeroValue5
  t9 := Tryz.underlying9
  a9 := Tryz.isAgg9
  z9 := Tryz.sizeOf9
  v9 := Tryz.zeroValue9
  t31 := Tryz.underlying23
  a31 := Tryz.isAgg23
  z31 := Tryz.sizeOf23
  v31 := Tryz.zeroValue23
  t46 := Tryz.underlying186
  a46 := Tryz.isAgg186
  z46 := Tryz.sizeOf186
  v46 := Tryz.zeroValue186
  t51 := Tryz.underlying200
  a51 := Tryz.isAgg200
  z51 := Tryz.sizeOf200
  v51 := Tryz.zeroValue200
  t53 := Tryz.underlying202
  a53 := Tryz.isAgg202
  z53 := Tryz.sizeOf202
  v53 := Tryz.zeroValue202
  t131 := Tryz.underlying197
  a131 := Tryz.isAgg197
  z131 := Tryz.sizeOf197
  v131 := Tryz.zeroValue197
  t182 := Tryz.underlying192
  a182 := Tryz.isAgg192
  z182 := Tryz.sizeOf192
  v182 := Tryz.zeroValue192
  t183 := Tryz.underlying193
  a183 := Tryz.isAgg193
  z183 := Tryz.sizeOf193
  v183 := Tryz.zeroValue193
  t218 := Tryz.underlying206
  a218 := Tryz.isAgg206
  z218 := Tryz.sizeOf206
  v218 := Tryz.zeroValue206
  t222 := Tryz.underlying210
  a222 := Tryz.isAgg210
  z222 := Tryz.sizeOf210
  v222 := Tryz.zeroValue210
  t228 := Tryz.underlying219
  a228 := Tryz.isAgg219
  z228 := Tryz.sizeOf219
  v228 := Tryz.zeroValue219
  t229 := Tryz.underlying220
  a229 := Tryz.isAgg220
  z229 := Tryz.sizeOf220
  v229 := Tryz.zeroValue220 }
open Go.Sort Go.RowKit in
theorem Tryz.slices_Sort_string (blk off cap : Nat) (ss : List (List UInt8)) (w : World) (hH : Holds encStr w blk off ss.toArray) (hblk : blk < w.heap.size) (hsz : ss.length < 4611686018427387904) :
    Calls Tryz.prog 122 #[.slice (some ⟨blk, off, none⟩) ss.length cap] w fun e w' =>
      e = .returned (.tuple #[]) ∧ ∃ n os, w' = grow (putRow encStr (Sort.ahead w n) blk off (ss.mergeSort fun x y => decide (x ≤ y)).toArray) os := Any.slices_Sort_string Tryz.lays190 blk off cap ss w hH hblk hsz
open Go.RowKit Go.Sort in
theorem Tryz.slices_Sort_string_none (p : Option Addr) (cap : Nat) (w : World) :
    Calls Tryz.prog 122 #[.slice p 0 cap] w fun e w' => e = .returned (.tuple #[]) ∧ w' = w := Any.slices_Sort_string_none Tryz.lays190 p cap w
end Go.Proofs
