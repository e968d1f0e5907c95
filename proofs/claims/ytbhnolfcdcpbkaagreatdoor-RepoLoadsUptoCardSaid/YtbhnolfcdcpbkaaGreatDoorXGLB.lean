/- OWN WORK: a part of the proof of a law of the seat YtbhnolfcdcpbkaaGreatDoor: the rules by which the code is walked, what the functions compute, and the walk through them. -/
import Derived.Test.YtbhnolfcdcpbkaaGreatDoorProg
import Derived.Test.YtbhnolfcdcpbkaaGreatDoorXGLA
import Derived.Lib.IndexAny
import Derived.Lib.SlTrimSet
import Derived.Lib.SmallJoins
import Derived.SliceStrings
import Derived.ChangeSame
import Derived.Carry
import Derived.ChangeOld
import Derived.DataReads
import Derived.Maps.RangeRun
import Derived.MapKept
import Derived.Laws.Externs
import Derived.Laws.Pointers
import Derived.Shelf.Strings.SlTrimAscii
import Derived.Shelf.Strings.Trim
import Derived.Shelf.Small.Utf8
import Derived.Shelf.Small.Strs
import Derived.Shelf.Strconv.Itoa3
import Derived.Shelf.Strings.Search1
import Derived.Shelf.Strings.Search2
import Derived.Shelf.Strings.Search3
import Derived.Shelf.Sort.Plain
import Derived.Shelf.Slices.In.SortNone
set_option linter.unusedVariables false
set_option linter.unusedSimpArgs false
section
namespace Go.Proofs.YtbhnolfcdcpbkaaGreatDoor.X
open Go Go.RowKit Go.Proofs Go.Sx
/-! What the program's types are, to be looked up. -/
instance ia3 : AgK Tryz.prog 3 false := ⟨Tryz.isAgg3⟩
instance ia4 : AgK Tryz.prog 4 false := ⟨Tryz.isAgg4⟩
instance ia9 : AgK Tryz.prog 9 false := ⟨Tryz.isAgg9⟩
instance ia23 : AgK Tryz.prog 23 false := ⟨Tryz.isAgg23⟩
instance ia24 : AgK Tryz.prog 24 false := ⟨Tryz.isAgg24⟩
instance ia25 : AgK Tryz.prog 25 false := ⟨Tryz.isAgg25⟩
instance ia27 : AgK Tryz.prog 27 true := ⟨Tryz.isAgg27⟩
instance ia33 : AgK Tryz.prog 33 true := ⟨Tryz.isAgg33⟩
instance ia35 : AgK Tryz.prog 35 false := ⟨Tryz.isAgg35⟩
instance ia38 : AgK Tryz.prog 38 false := ⟨Tryz.isAgg38⟩
instance ia40 : AgK Tryz.prog 40 false := ⟨Tryz.isAgg40⟩
instance ia49 : AgK Tryz.prog 49 false := ⟨Tryz.isAgg49⟩
instance ia52 : AgK Tryz.prog 52 true := ⟨Tryz.isAgg52⟩
instance ia53 : AgK Tryz.prog 53 false := ⟨Tryz.isAgg53⟩
instance ia54 : AgK Tryz.prog 54 false := ⟨Tryz.isAgg54⟩
instance ia61 : AgK Tryz.prog 61 false := ⟨Tryz.isAgg61⟩
instance ia63 : AgK Tryz.prog 63 true := ⟨Tryz.isAgg63⟩
instance ia73 : AgK Tryz.prog 73 false := ⟨Tryz.isAgg73⟩
instance ia75 : AgK Tryz.prog 75 true := ⟨Tryz.isAgg75⟩
instance ia99 : AgK Tryz.prog 99 true := ⟨Tryz.isAgg99⟩
instance ia101 : AgK Tryz.prog 101 true := ⟨Tryz.isAgg101⟩
instance ia103 : AgK Tryz.prog 103 true := ⟨Tryz.isAgg103⟩
instance ia112 : AgK Tryz.prog 112 true := ⟨Tryz.isAgg112⟩
instance ia137 : AgK Tryz.prog 137 false := ⟨Tryz.isAgg137⟩
instance ia149 : AgK Tryz.prog 149 true := ⟨Tryz.isAgg149⟩
instance ia159 : AgK Tryz.prog 159 false := ⟨Tryz.isAgg159⟩
instance ia160 : AgK Tryz.prog 160 false := ⟨Tryz.isAgg160⟩
instance ia256 : AgK Tryz.prog 256 true := ⟨Tryz.isAgg256⟩
instance ia351 : AgK Tryz.prog 351 true := ⟨Tryz.isAgg351⟩
instance iz3 : SzK Tryz.prog 3 1 := ⟨Tryz.sizeOf3⟩
instance iz4 : SzK Tryz.prog 4 1 := ⟨Tryz.sizeOf4⟩
instance iz9 : SzK Tryz.prog 9 1 := ⟨Tryz.sizeOf9⟩
instance iz23 : SzK Tryz.prog 23 1 := ⟨Tryz.sizeOf23⟩
instance iz24 : SzK Tryz.prog 24 1 := ⟨Tryz.sizeOf24⟩
instance iz25 : SzK Tryz.prog 25 1 := ⟨Tryz.sizeOf25⟩
instance iz27 : SzK Tryz.prog 27 3 := ⟨Tryz.sizeOf27⟩
instance iz33 : SzK Tryz.prog 33 2 := ⟨Tryz.sizeOf33⟩
instance iz35 : SzK Tryz.prog 35 1 := ⟨Tryz.sizeOf35⟩
instance iz38 : SzK Tryz.prog 38 1 := ⟨Tryz.sizeOf38⟩
instance iz40 : SzK Tryz.prog 40 1 := ⟨Tryz.sizeOf40⟩
instance iz49 : SzK Tryz.prog 49 1 := ⟨Tryz.sizeOf49⟩
instance iz52 : SzK Tryz.prog 52 1 := ⟨Tryz.sizeOf52⟩
instance iz54 : SzK Tryz.prog 54 1 := ⟨Tryz.sizeOf54⟩
instance iz61 : SzK Tryz.prog 61 1 := ⟨Tryz.sizeOf61⟩
instance iz63 : SzK Tryz.prog 63 4 := ⟨Tryz.sizeOf63⟩
instance iz73 : SzK Tryz.prog 73 1 := ⟨Tryz.sizeOf73⟩
instance iz75 : SzK Tryz.prog 75 6 := ⟨Tryz.sizeOf75⟩
instance iz99 : SzK Tryz.prog 99 4 := ⟨Tryz.sizeOf99⟩
instance iz101 : SzK Tryz.prog 101 6 := ⟨Tryz.sizeOf101⟩
instance iz103 : SzK Tryz.prog 103 6 := ⟨Tryz.sizeOf103⟩
instance iz112 : SzK Tryz.prog 112 2 := ⟨Tryz.sizeOf112⟩
instance iz149 : SzK Tryz.prog 149 2 := ⟨Tryz.sizeOf149⟩
instance iz159 : SzK Tryz.prog 159 1 := ⟨Tryz.sizeOf159⟩
instance iz160 : SzK Tryz.prog 160 1 := ⟨Tryz.sizeOf160⟩
instance iz256 : SzK Tryz.prog 256 2 := ⟨Tryz.sizeOf256⟩
instance iz265 : SzK Tryz.prog 265 2 := ⟨Tryz.sizeOf265⟩
instance iz351 : SzK Tryz.prog 351 2 := ⟨Tryz.sizeOf351⟩
instance iu3 : UndK Tryz.prog 3 (Option.some (Go.TypeDesc.int Go.IntKind.i64)) := ⟨Tryz.underlying3⟩
instance iu4 : UndK Tryz.prog 4 (Option.some Go.TypeDesc.bool) := ⟨Tryz.underlying4⟩
instance iu9 : UndK Tryz.prog 9 (Option.some Go.TypeDesc.string) := ⟨Tryz.underlying9⟩
instance iu22 : UndK Tryz.prog 22 (Option.some (Go.TypeDesc.slice 75)) := ⟨Tryz.underlying22⟩
instance iu23 : UndK Tryz.prog 23 (Option.some (Go.TypeDesc.slice 99)) := ⟨Tryz.underlying23⟩
instance iu24 : UndK Tryz.prog 24 (Option.some (Go.TypeDesc.slice 101)) := ⟨Tryz.underlying24⟩
instance iu25 : UndK Tryz.prog 25 (Option.some (Go.TypeDesc.slice 33)) := ⟨Tryz.underlying25⟩
instance iu27 : UndK Tryz.prog 27 (Option.some (Go.TypeDesc.struct #[{ name := "Log", type := 23, offset := 0, embedded := Bool.false, tag := "", pkgPath := "", byteOffset := 0 }, { name := "Pending", type := 24, offset := 1, embedded := Bool.false, tag := "", pkgPath := "", byteOffset := 24 }, { name := "Shelves", type := 25, offset := 2, embedded := Bool.false, tag := "", pkgPath := "", byteOffset := 48 }])) := ⟨Tryz.underlying27⟩
instance iu33 : UndK Tryz.prog 33 (Option.some (Go.TypeDesc.struct #[{ name := "Name", type := 9, offset := 0, embedded := Bool.false, tag := "", pkgPath := "", byteOffset := 0 }, { name := "L", type := 24, offset := 1, embedded := Bool.false, tag := "", pkgPath := "", byteOffset := 16 }])) := ⟨Tryz.underlying33⟩
instance iu34 : UndK Tryz.prog 34 (Option.some (Go.TypeDesc.pointer 56)) := ⟨Tryz.underlying34⟩
instance iu38 : UndK Tryz.prog 38 (Option.some (Go.TypeDesc.slice 63)) := ⟨Tryz.underlying38⟩
instance iu40 : UndK Tryz.prog 40 (Option.some (Go.TypeDesc.slice 103)) := ⟨Tryz.underlying40⟩
instance iu42 : UndK Tryz.prog 42 (Option.some (Go.TypeDesc.slice 112)) := ⟨Tryz.underlying42⟩
instance iu49 : UndK Tryz.prog 49 (Option.some (Go.TypeDesc.pointer 124)) := ⟨Tryz.underlying49⟩
instance iu52 : UndK Tryz.prog 52 (Option.some (Go.TypeDesc.struct #[{ name := "l", type := 49, offset := 0, embedded := Bool.false, tag := "", pkgPath := "quiltwork/repo", byteOffset := 0 }])) := ⟨Tryz.underlying52⟩
instance iu53 : UndK Tryz.prog 53 (Option.some (Go.TypeDesc.map 9 40)) := ⟨Tryz.underlying53⟩
instance iu54 : UndK Tryz.prog 54 (Option.some (Go.TypeDesc.pointer 139)) := ⟨Tryz.underlying54⟩
instance iu56 : UndK Tryz.prog 56 (Option.some (Go.TypeDesc.struct #[{ name := "records", type := 52, offset := 0, embedded := Bool.true, tag := "", pkgPath := "quiltwork/repo", byteOffset := 0 }, { name := "pending", type := 40, offset := 1, embedded := Bool.false, tag := "", pkgPath := "quiltwork/repo", byteOffset := 8 }, { name := "shelves", type := 53, offset := 2, embedded := Bool.false, tag := "", pkgPath := "quiltwork/repo", byteOffset := 32 }, { name := "t", type := 54, offset := 3, embedded := Bool.false, tag := "", pkgPath := "quiltwork/repo", byteOffset := 40 }])) := ⟨Tryz.underlying56⟩
instance iu61 : UndK Tryz.prog 61 (Option.some (Go.TypeDesc.slice 3)) := ⟨Tryz.underlying61⟩
instance iu63 : UndK Tryz.prog 63 (Option.some (Go.TypeDesc.struct #[{ name := "Id", type := 3, offset := 0, embedded := Bool.false, tag := "", pkgPath := "", byteOffset := 0 }, { name := "Note", type := 9, offset := 1, embedded := Bool.false, tag := "", pkgPath := "", byteOffset := 8 }, { name := "Deps", type := 61, offset := 2, embedded := Bool.false, tag := "", pkgPath := "", byteOffset := 24 }, { name := "L", type := 40, offset := 3, embedded := Bool.false, tag := "", pkgPath := "", byteOffset := 48 }])) := ⟨Tryz.underlying63⟩
instance iu73 : UndK Tryz.prog 73 (Option.some (Go.TypeDesc.slice 9)) := ⟨Tryz.underlying73⟩
instance iu75 : UndK Tryz.prog 75 (Option.some (Go.TypeDesc.struct #[{ name := "Kind", type := 3, offset := 0, embedded := Bool.false, tag := "", pkgPath := "", byteOffset := 0 }, { name := "L", type := 24, offset := 1, embedded := Bool.false, tag := "", pkgPath := "", byteOffset := 8 }, { name := "Id", type := 3, offset := 2, embedded := Bool.false, tag := "", pkgPath := "", byteOffset := 32 }, { name := "S", type := 9, offset := 3, embedded := Bool.false, tag := "", pkgPath := "", byteOffset := 40 }, { name := "Deps", type := 61, offset := 4, embedded := Bool.false, tag := "", pkgPath := "", byteOffset := 56 }, { name := "Files", type := 73, offset := 5, embedded := Bool.false, tag := "", pkgPath := "", byteOffset := 80 }])) := ⟨Tryz.underlying75⟩
instance iu85 : UndK Tryz.prog 85 (Option.some (Go.TypeDesc.slice 149)) := ⟨Tryz.underlying85⟩
instance iu99 : UndK Tryz.prog 99 (Option.some (Go.TypeDesc.struct #[{ name := "Id", type := 3, offset := 0, embedded := Bool.false, tag := "", pkgPath := "", byteOffset := 0 }, { name := "Note", type := 9, offset := 1, embedded := Bool.false, tag := "", pkgPath := "", byteOffset := 8 }, { name := "Deps", type := 61, offset := 2, embedded := Bool.false, tag := "", pkgPath := "", byteOffset := 24 }, { name := "L", type := 24, offset := 3, embedded := Bool.false, tag := "", pkgPath := "", byteOffset := 48 }])) := ⟨Tryz.underlying99⟩
instance iu101 : UndK Tryz.prog 101 (Option.some (Go.TypeDesc.struct #[{ name := "Kind", type := 3, offset := 0, embedded := Bool.false, tag := "", pkgPath := "", byteOffset := 0 }, { name := "Name", type := 9, offset := 1, embedded := Bool.false, tag := "", pkgPath := "", byteOffset := 8 }, { name := "To", type := 9, offset := 2, embedded := Bool.false, tag := "", pkgPath := "", byteOffset := 24 }, { name := "At", type := 3, offset := 3, embedded := Bool.false, tag := "", pkgPath := "", byteOffset := 40 }, { name := "Old", type := 73, offset := 4, embedded := Bool.false, tag := "", pkgPath := "", byteOffset := 48 }, { name := "New", type := 73, offset := 5, embedded := Bool.false, tag := "", pkgPath := "", byteOffset := 72 }])) := ⟨Tryz.underlying101⟩
instance iu103 : UndK Tryz.prog 103 (Option.some (Go.TypeDesc.struct #[{ name := "Kind", type := 3, offset := 0, embedded := Bool.false, tag := "", pkgPath := "", byteOffset := 0 }, { name := "Name", type := 9, offset := 1, embedded := Bool.false, tag := "", pkgPath := "", byteOffset := 8 }, { name := "To", type := 9, offset := 2, embedded := Bool.false, tag := "", pkgPath := "", byteOffset := 24 }, { name := "At", type := 3, offset := 3, embedded := Bool.false, tag := "", pkgPath := "", byteOffset := 40 }, { name := "Old", type := 73, offset := 4, embedded := Bool.false, tag := "", pkgPath := "", byteOffset := 48 }, { name := "New", type := 73, offset := 5, embedded := Bool.false, tag := "", pkgPath := "", byteOffset := 72 }])) := ⟨Tryz.underlying103⟩
instance iu112 : UndK Tryz.prog 112 (Option.some (Go.TypeDesc.struct #[{ name := "Name", type := 9, offset := 0, embedded := Bool.false, tag := "", pkgPath := "", byteOffset := 0 }, { name := "L", type := 40, offset := 1, embedded := Bool.false, tag := "", pkgPath := "", byteOffset := 16 }])) := ⟨Tryz.underlying112⟩
instance iu122 : UndK Tryz.prog 122 (Option.some (Go.TypeDesc.slice 4)) := ⟨Tryz.underlying122⟩
instance iu124 : UndK Tryz.prog 124 (Option.some (Go.TypeDesc.struct #[{ name := "l", type := 38, offset := 0, embedded := Bool.false, tag := "", pkgPath := "quiltwork/log", byteOffset := 0 }, { name := "t", type := 54, offset := 1, embedded := Bool.false, tag := "", pkgPath := "quiltwork/log", byteOffset := 24 }])) := ⟨Tryz.underlying124⟩
instance iu137 : UndK Tryz.prog 137 (Option.some (Go.TypeDesc.map 9 73)) := ⟨Tryz.underlying137⟩
instance iu139 : UndK Tryz.prog 139 (Option.some (Go.TypeDesc.struct #[{ name := "m", type := 137, offset := 0, embedded := Bool.false, tag := "", pkgPath := "quiltwork/tree", byteOffset := 0 }])) := ⟨Tryz.underlying139⟩
instance iu149 : UndK Tryz.prog 149 (Option.some (Go.TypeDesc.struct #[{ name := "Name", type := 9, offset := 0, embedded := Bool.false, tag := "", pkgPath := "", byteOffset := 0 }, { name := "L", type := 73, offset := 1, embedded := Bool.false, tag := "", pkgPath := "", byteOffset := 16 }])) := ⟨Tryz.underlying149⟩
instance iu159 : UndK Tryz.prog 159 (Option.some (Go.TypeDesc.pointer 162)) := ⟨Tryz.underlying159⟩
instance iu160 : UndK Tryz.prog 160 (Option.some (Go.TypeDesc.slice 5)) := ⟨Tryz.underlying160⟩
instance iu215 : UndK Tryz.prog 215 (Option.some (Go.TypeDesc.map 3 214)) := ⟨Tryz.underlying215⟩
instance iu224 : UndK Tryz.prog 224 (Option.some (Go.TypeDesc.pointer 5)) := ⟨Tryz.underlying224⟩
instance iu242 : UndK Tryz.prog 242 (Option.some (Go.TypeDesc.slice 38)) := ⟨Tryz.underlying242⟩
instance iu256 : UndK Tryz.prog 256 (Option.some (Go.TypeDesc.struct #[{ name := "A", type := 3, offset := 0, embedded := Bool.false, tag := "", pkgPath := "", byteOffset := 0 }, { name := "B", type := 3, offset := 1, embedded := Bool.false, tag := "", pkgPath := "", byteOffset := 8 }])) := ⟨Tryz.underlying256⟩
instance iu257 : UndK Tryz.prog 257 (Option.some (Go.TypeDesc.slice 256)) := ⟨Tryz.underlying257⟩
instance iu263 : UndK Tryz.prog 263 (Option.some (Go.TypeDesc.slice 265)) := ⟨Tryz.underlying263⟩
instance iu265 : UndK Tryz.prog 265 (Option.some (Go.TypeDesc.struct #[{ name := "A", type := 3, offset := 0, embedded := Bool.false, tag := "", pkgPath := "", byteOffset := 0 }, { name := "B", type := 3, offset := 1, embedded := Bool.false, tag := "", pkgPath := "", byteOffset := 8 }])) := ⟨Tryz.underlying265⟩
instance iu273 : UndK Tryz.prog 273 (Option.some Go.TypeDesc.unsafePointer) := ⟨Tryz.underlying273⟩
instance iu295 : UndK Tryz.prog 295 (Option.some (Go.TypeDesc.slice 61)) := ⟨Tryz.underlying295⟩
instance iu351 : UndK Tryz.prog 351 (Option.some (Go.TypeDesc.array 2 3)) := ⟨Tryz.underlying351⟩
instance if101_0 : FAK Tryz.prog 101 0 0 := ⟨fun b o w => by kernel_rfl⟩
instance if101_1 : FAK Tryz.prog 101 1 1 := ⟨fun b o w => by kernel_rfl⟩
instance if101_2 : FAK Tryz.prog 101 2 2 := ⟨fun b o w => by kernel_rfl⟩
instance if101_3 : FAK Tryz.prog 101 3 3 := ⟨fun b o w => by kernel_rfl⟩
instance if101_4 : FAK Tryz.prog 101 4 4 := ⟨fun b o w => by kernel_rfl⟩
instance if101_5 : FAK Tryz.prog 101 5 5 := ⟨fun b o w => by kernel_rfl⟩
instance if103_0 : FAK Tryz.prog 103 0 0 := ⟨fun b o w => by kernel_rfl⟩
instance if103_1 : FAK Tryz.prog 103 1 1 := ⟨fun b o w => by kernel_rfl⟩
instance if103_2 : FAK Tryz.prog 103 2 2 := ⟨fun b o w => by kernel_rfl⟩
instance if103_3 : FAK Tryz.prog 103 3 3 := ⟨fun b o w => by kernel_rfl⟩
instance if103_4 : FAK Tryz.prog 103 4 4 := ⟨fun b o w => by kernel_rfl⟩
instance if103_5 : FAK Tryz.prog 103 5 5 := ⟨fun b o w => by kernel_rfl⟩
instance if112_0 : FAK Tryz.prog 112 0 0 := ⟨fun b o w => by kernel_rfl⟩
instance if112_1 : FAK Tryz.prog 112 1 1 := ⟨fun b o w => by kernel_rfl⟩
instance if124_0 : FAK Tryz.prog 124 0 0 := ⟨fun b o w => by kernel_rfl⟩
instance if124_1 : FAK Tryz.prog 124 1 1 := ⟨fun b o w => by kernel_rfl⟩
instance if139_0 : FAK Tryz.prog 139 0 0 := ⟨fun b o w => by kernel_rfl⟩
instance if149_0 : FAK Tryz.prog 149 0 0 := ⟨fun b o w => by kernel_rfl⟩
instance if149_1 : FAK Tryz.prog 149 1 1 := ⟨fun b o w => by kernel_rfl⟩
instance if162_0 : FAK Tryz.prog 162 0 0 := ⟨fun b o w => by kernel_rfl⟩
instance if162_1 : FAK Tryz.prog 162 1 1 := ⟨fun b o w => by kernel_rfl⟩
instance if256_0 : FAK Tryz.prog 256 0 0 := ⟨fun b o w => by kernel_rfl⟩
instance if256_1 : FAK Tryz.prog 256 1 1 := ⟨fun b o w => by kernel_rfl⟩
instance if265_0 : FAK Tryz.prog 265 0 0 := ⟨fun b o w => by kernel_rfl⟩
instance if265_1 : FAK Tryz.prog 265 1 1 := ⟨fun b o w => by kernel_rfl⟩
instance if27_0 : FAK Tryz.prog 27 0 0 := ⟨fun b o w => by kernel_rfl⟩
instance if27_1 : FAK Tryz.prog 27 1 1 := ⟨fun b o w => by kernel_rfl⟩
instance if27_2 : FAK Tryz.prog 27 2 2 := ⟨fun b o w => by kernel_rfl⟩
instance if33_0 : FAK Tryz.prog 33 0 0 := ⟨fun b o w => by kernel_rfl⟩
instance if33_1 : FAK Tryz.prog 33 1 1 := ⟨fun b o w => by kernel_rfl⟩
instance if52_0 : FAK Tryz.prog 52 0 0 := ⟨fun b o w => by kernel_rfl⟩
instance if56_0 : FAK Tryz.prog 56 0 0 := ⟨fun b o w => by kernel_rfl⟩
instance if56_1 : FAK Tryz.prog 56 1 1 := ⟨fun b o w => by kernel_rfl⟩
instance if56_2 : FAK Tryz.prog 56 2 2 := ⟨fun b o w => by kernel_rfl⟩
instance if56_3 : FAK Tryz.prog 56 3 3 := ⟨fun b o w => by kernel_rfl⟩
instance if63_0 : FAK Tryz.prog 63 0 0 := ⟨fun b o w => by kernel_rfl⟩
instance if63_1 : FAK Tryz.prog 63 1 1 := ⟨fun b o w => by kernel_rfl⟩
instance if63_2 : FAK Tryz.prog 63 2 2 := ⟨fun b o w => by kernel_rfl⟩
instance if63_3 : FAK Tryz.prog 63 3 3 := ⟨fun b o w => by kernel_rfl⟩
instance if75_0 : FAK Tryz.prog 75 0 0 := ⟨fun b o w => by kernel_rfl⟩
instance if75_1 : FAK Tryz.prog 75 1 1 := ⟨fun b o w => by kernel_rfl⟩
instance if75_2 : FAK Tryz.prog 75 2 2 := ⟨fun b o w => by kernel_rfl⟩
instance if75_3 : FAK Tryz.prog 75 3 3 := ⟨fun b o w => by kernel_rfl⟩
instance if75_4 : FAK Tryz.prog 75 4 4 := ⟨fun b o w => by kernel_rfl⟩
instance if75_5 : FAK Tryz.prog 75 5 5 := ⟨fun b o w => by kernel_rfl⟩
instance if99_0 : FAK Tryz.prog 99 0 0 := ⟨fun b o w => by kernel_rfl⟩
instance if99_1 : FAK Tryz.prog 99 1 1 := ⟨fun b o w => by kernel_rfl⟩
instance if99_2 : FAK Tryz.prog 99 2 2 := ⟨fun b o w => by kernel_rfl⟩
instance if99_3 : FAK Tryz.prog 99 3 3 := ⟨fun b o w => by kernel_rfl⟩
instance ib101 : SBK Tryz.prog 101 [(0, 1), (1, 1), (2, 1), (3, 1), (4, 1), (5, 1)] [.int .i64 0, .string ⟨#[]⟩, .string ⟨#[]⟩, .int .i64 0, .slice none 0 0, .slice none 0 0] := ⟨SB.struct Tryz.zeroValue101 rfl Tryz.underlying101 (fun w => by kernel_rfl)⟩
instance ib103 : SBK Tryz.prog 103 [(0, 1), (1, 1), (2, 1), (3, 1), (4, 1), (5, 1)] [.int .i64 0, .string ⟨#[]⟩, .string ⟨#[]⟩, .int .i64 0, .slice none 0 0, .slice none 0 0] := ⟨SB.struct Tryz.zeroValue103 rfl Tryz.underlying103 (fun w => by kernel_rfl)⟩
instance ib112 : SBK Tryz.prog 112 [(0, 1), (1, 1)] [.string ⟨#[]⟩, .slice none 0 0] := ⟨SB.struct Tryz.zeroValue112 rfl Tryz.underlying112 (fun w => by kernel_rfl)⟩
instance ib124 : SBK Tryz.prog 124 [(0, 1), (1, 1)] [.slice none 0 0, .pointer none] := ⟨SB.struct Tryz.zeroValue124 rfl Tryz.underlying124 (fun w => by kernel_rfl)⟩
instance ib139 : SBK Tryz.prog 139 [(0, 1)] [.map none] := ⟨SB.struct Tryz.zeroValue139 rfl Tryz.underlying139 (fun w => by kernel_rfl)⟩
instance ib149 : SBK Tryz.prog 149 [(0, 1), (1, 1)] [.string ⟨#[]⟩, .slice none 0 0] := ⟨SB.struct Tryz.zeroValue149 rfl Tryz.underlying149 (fun w => by kernel_rfl)⟩
instance ib256 : SBK Tryz.prog 256 [(0, 1), (1, 1)] [.int .i64 0, .int .i64 0] := ⟨SB.struct Tryz.zeroValue256 rfl Tryz.underlying256 (fun w => by kernel_rfl)⟩
instance ib265 : SBK Tryz.prog 265 [(0, 1), (1, 1)] [.int .i64 0, .int .i64 0] := ⟨SB.struct Tryz.zeroValue265 rfl Tryz.underlying265 (fun w => by kernel_rfl)⟩
instance ib27 : SBK Tryz.prog 27 [(0, 1), (1, 1), (2, 1)] [.slice none 0 0, .slice none 0 0, .slice none 0 0] := ⟨SB.struct Tryz.zeroValue27 rfl Tryz.underlying27 (fun w => by kernel_rfl)⟩
instance ib33 : SBK Tryz.prog 33 [(0, 1), (1, 1)] [.string ⟨#[]⟩, .slice none 0 0] := ⟨SB.struct Tryz.zeroValue33 rfl Tryz.underlying33 (fun w => by kernel_rfl)⟩
instance ib351 : SBK Tryz.prog 351 [(0, 1), (1, 1)] [.int .i64 0, .int .i64 0] := ⟨SB.array Tryz.zeroValue351 rfl Tryz.underlying351 Tryz.sizeOf3 (fun i x h => by rcases i with _ | _ |  i <;> simp_all)⟩
instance ib52 : SBK Tryz.prog 52 [(0, 1)] [.pointer none] := ⟨SB.struct Tryz.zeroValue52 rfl Tryz.underlying52 (fun w => by kernel_rfl)⟩
instance ib56 : SBK Tryz.prog 56 [(0, 1), (1, 1), (2, 1), (3, 1)] [.pointer none, .slice none 0 0, .map none, .pointer none] := ⟨SB.struct Tryz.zeroValue56 rfl Tryz.underlying56 (fun w => by kernel_rfl)⟩
instance ib63 : SBK Tryz.prog 63 [(0, 1), (1, 1), (2, 1), (3, 1)] [.int .i64 0, .string ⟨#[]⟩, .slice none 0 0, .slice none 0 0] := ⟨SB.struct Tryz.zeroValue63 rfl Tryz.underlying63 (fun w => by kernel_rfl)⟩
instance ib75 : SBK Tryz.prog 75 [(0, 1), (1, 1), (2, 1), (3, 1), (4, 1), (5, 1)] [.int .i64 0, .slice none 0 0, .int .i64 0, .string ⟨#[]⟩, .slice none 0 0, .slice none 0 0] := ⟨SB.struct Tryz.zeroValue75 rfl Tryz.underlying75 (fun w => by kernel_rfl)⟩
instance ib99 : SBK Tryz.prog 99 [(0, 1), (1, 1), (2, 1), (3, 1)] [.int .i64 0, .string ⟨#[]⟩, .slice none 0 0, .slice none 0 0] := ⟨SB.struct Tryz.zeroValue99 rfl Tryz.underlying99 (fun w => by kernel_rfl)⟩
end Go.Proofs.YtbhnolfcdcpbkaaGreatDoor.X
end
section
namespace Go.Sx
open Go
structure Prim where
 kind : Int
 name : ByteArray
 to : ByteArray
 pos : Int
 old : List ByteArray
 new : List ByteArray
 deriving DecidableEq
instance : Rp Prim where
 Lay := (Option Addr × Nat) × (Option Addr × Nat)
 size := 6
 enc p y := [.int .i64 p.kind, .string p.name, .string p.to, .int .i64 p.pos, .slice y.1.1 p.old.length y.1.2, .slice y.2.1 p.new.length y.2.2]
 len _ _ := rfl
 one _ _ v hv := by
  simp only [List.mem_cons, List.mem_nil_iff, or_false] at hv;rcases hv with rfl | rfl | rfl | rfl | rfl | rfl <;> rfl
 asn p y := [slA y.1.1 p.old, slA y.2.1 p.new]
end Go.Sx
end
section
namespace Go.Sx
open Go
def e0 : ByteArray := ⟨#[]⟩
def nameB (b : UInt8) : Bool := (decide (97 ≤ b.toNat) && decide (b.toNat ≤ 122)) || (decide (48 ≤ b.toNat) && decide (b.toNat ≤ 57)) || decide (b.toNat = 46) || decide (b.toNat = 45) || decide (b.toNat = 95) || decide (b.toNat = 47)
def nameOk (s : ByteArray) : Bool := decide (1 ≤ (s.size : Int)) && decide ((s.size : Int) ≤ 24) && (ofB s).all nameB
def lineOk (s : ByteArray) : Bool := decide ((s.size : Int) ≤ 60) && !(ofB s).contains 10
def Prim.bare (p : Prim) : Bool := decide (p.pos = 0) && decide ((p.old.length : Int) = 0) && decide ((p.new.length : Int) = 0)
def Prim.right (p : Prim) : Bool :=
 nameOk p.name && (if p.kind = 0 then decide (p.to = ⟨#[]⟩) && decide (0 ≤ p.pos) && decide (p.pos ≤ 1048576) && p.old.all lineOk && p.new.all lineOk && !decide (p.old = p.new)
  else if p.kind = 3 then p.bare && nameOk p.to && !decide (p.to = p.name) else p.bare && decide (p.to = ⟨#[]⟩) && (decide (p.kind = 1) || decide (p.kind = 2)))
def Prim.zero : Prim := ⟨0, ⟨#[]⟩, ⟨#[]⟩, 0, [], []⟩
def Prim.flip (p : Prim) : Prim := if p.kind = 0 then { p with old := p.new, new := p.old } else if p.kind = 1 ∨ p.kind = 2 then { p with kind := 3 - p.kind } else if p.kind = 3 then { p with name := p.to, to := p.name } else p
def Prim.names (p : Prim) : List ByteArray := if p.kind = 3 then [p.name, p.to] else [p.name]
def Prim.meets (p q : Prim) : Bool := p.names.any fun a => q.names.any fun b => decide (b = a)
structure Prim.fit (p : Prim) : Prop where
 o : p.old.length ≤ 2000000
 n : p.new.length ≤ 2000000
 a : p.name.size ≤ 2000000
 b : p.to.size ≤ 2000000
 os : ∀ s ∈ p.old, s.size ≤ 2000000
 ns : ∀ s ∈ p.new, s.size ≤ 2000000
def hunks (p q : Prim) : Prim × Prim × Bool :=
 if p.pos + p.new.length < q.pos then ({ q with pos := q.pos - ((p.new.length : Int) - p.old.length) }, p, true)
 else if q.pos + q.old.length < p.pos then (q, { p with pos := p.pos + ((q.new.length : Int) - q.old.length) }, true)
 else (p, q, false)
def swapped (p q : Prim) : Prim × Prim × Bool :=
 if p.kind = 0 ∧ q.kind = 0 then if p.name = q.name then hunks p q else (q, p, true)
 else if p.kind = 0 ∧ q.kind = 3 then if p.name = q.name then (q, { p with name := q.to }, true) else (q, p, !decide (p.name = q.to))
 else if p.kind = 3 ∧ q.kind = 0 then if p.to = q.name then ({ q with name := p.name }, p, true) else (q, p, !decide (p.name = q.name))
 else (q, p, !p.meets q)
def swap (p q : Prim) : Prim × Prim × Bool :=
 if p.right && q.right && (swapped p q).2.2 && (swapped p q).1.right && (swapped p q).2.1.right then ((swapped p q).1, (swapped p q).2.1, true) else (.zero, .zero, false)
def refTwo (p q : Prim) : Prim × Prim × Bool :=
 if p.kind = 0 ∧ q.kind = 0 ∧ p.name = q.name then hunks p q
 else if p.kind = 0 ∧ q.kind = 3 ∧ p.name = q.name then (q, { p with name := q.to }, true)
 else if p.kind = 3 ∧ q.kind = 0 ∧ p.to = q.name then ({ q with name := p.name }, p, true)
 else if p.kind = 0 ∧ q.kind = 0 then (q, p, true) else (q, p, !p.meets q)
def refSwap (p q : Prim) : Prim × Prim × Bool :=
 if p.right && q.right && (refTwo p q).2.2 && (refTwo p q).1.right && (refTwo p q).2.1.right then ((refTwo p q).1, (refTwo p q).2.1, true) else (.zero, .zero, false)
def refRight (p : Prim) : Bool :=
 if (!nameOk p.name || decide (p.kind < 0) || decide (3 < p.kind)) = true then false
 else if p.kind = 0 then (if (!decide (p.to = ⟨#[]⟩) || decide (p.pos < 0) || decide (1048576 < p.pos)) = true then false else p.old.all lineOk && p.new.all lineOk && !decide (p.old = p.new))
 else if (!decide (p.pos = 0) || decide (0 < (p.old.length : Int)) || decide (0 < (p.new.length : Int))) = true then false
 else if p.kind = 3 then nameOk p.to && !decide (p.to = p.name) else decide (p.to = ⟨#[]⟩)
theorem refRight_eq (p : Prim) : refRight p = p.right := by
 unfold refRight Prim.right Prim.bare
 by_cases hn : nameOk p.name = true
 ·by_cases h0 : p.kind = 0
  ·have e1 : decide (p.pos < 0) = !decide (0 ≤ p.pos) := by
    rw [Bool.eq_iff_iff]; simp
   have e2 : decide (1048576 < p.pos) = !decide (p.pos ≤ 1048576) := by
    rw [Bool.eq_iff_iff]; simp
   rw [e1, e2, if_pos h0, if_pos h0];simp only [hn, h0];cases decide (p.to = ⟨#[]⟩) <;> cases decide (0 ≤ p.pos) <;> cases decide (p.pos ≤ 1048576) <;> simp
  ·by_cases hb : p.pos = 0 ∧ p.old.length = 0 ∧ p.new.length = 0
   ·obtain ⟨b1, b2, b3⟩ := hb
    by_cases h3 : p.kind = 3
    ·simp [hn, h3, b1, b2, b3]
    ·by_cases h4 : p.kind = 1
     ·simp [hn, h4, b1, b2, b3]
     ·by_cases h5 : p.kind = 2
      ·simp [hn, h5, b1, b2, b3]
      ·have : p.kind < 0 ∨ 3 < p.kind := by omega
       simp [hn, h0, h3, h4, h5, this]
   ·have hb' : (!decide (p.pos = 0) || decide (0 < (p.old.length : Int)) || decide (0 < (p.new.length : Int))) = true := by
     simp; omega
    have hb2 : (decide (p.pos = 0) && decide ((p.old.length : Int) = 0) && decide ((p.new.length : Int) = 0)) = false := by
     rw [Bool.eq_false_iff]; intro h; simp only [Bool.and_eq_true, decide_eq_true_eq] at h; omega
    rw [if_neg h0, if_pos hb', if_neg h0, hb2];simp
 ·simp [hn]
def refNames (p : Prim) : List ByteArray := if p.kind = 3 then (if Op.bytesLess p.name.toList p.to.toList = true then [p.name, p.to] else [p.to, p.name]) else [p.name]
theorem refNames_perm (p : Prim) : (refNames p).Perm p.names := by
 unfold refNames Prim.names
 split
 ·split
  ·exact List.Perm.refl _
  ·exact List.Perm.swap _ _ _
 ·exact List.Perm.refl _
theorem any_perm {α : Type} {f : α → Bool} {l m : List α} (h : l.Perm m) : l.any f = m.any f := by
 rw [Bool.eq_iff_iff, List.any_eq_true, List.any_eq_true];exact ⟨fun ⟨x, h1, h2⟩ => ⟨x, h.mem_iff.1 h1, h2⟩, fun ⟨x, h1, h2⟩ => ⟨x, h.mem_iff.2 h1, h2⟩⟩
abbrev Two (r : Prim × Prim × Bool) := { x : (Prim × Prim × Bool) × (Rp.Lay Prim × Rp.Lay Prim) // x.1 = r }
def Two.v {r : Prim × Prim × Bool} (x : Two r) : Value := .tuple #[sv x.1.1.1 x.1.2.1, sv x.1.1.2.1 x.1.2.2, .bool x.1.1.2.2]
def Two.g {r : Prim × Prim × Bool} (x : Two r) : List Asn := Rp.asn x.1.1.1 x.1.2.1 ++ Rp.asn x.1.1.2.1 x.1.2.2
def sizes (l : List ByteArray) : Nat := (l.map ByteArray.size).sum
def Prim.many (p : Prim) : Nat := p.name.size + p.to.size + p.old.length + p.new.length + sizes p.old + sizes p.new
def many (l : List Prim) : Nat := l.length + (l.map Prim.many).sum
theorem right_pos {p : Prim} (h : p.right = true) : 0 ≤ p.pos ∧ p.pos ≤ 1048576 := by
 unfold Prim.right Prim.bare at h
 split at h
 ·simp only [Bool.and_eq_true, decide_eq_true_eq] at h; omega
 ·split at h <;> · simp only [Bool.and_eq_true, decide_eq_true_eq] at h; omega
theorem swapped_fit {p q : Prim} (hp : p.fit) (hq : q.fit) : (swapped p q).1.fit ∧ (swapped p q).2.1.fit := by
 obtain ⟨p1, p2, p3, p4, p5, p6⟩ := hp;obtain ⟨q1, q2, q3, q4, q5, q6⟩ := hq;unfold swapped hunks;refine ⟨?_, ?_⟩ <;> (repeat' split) <;> constructor <;> assumption
theorem dcomm (a b : ByteArray) : decide (a = b) = decide (b = a) := by
 by_cases h : a = b
 ·simp [h]
 ·simp [h, show ¬ b = a from fun e => h e.symm]
theorem swap_eq (p q : Prim) : refSwap p q = swap p q := by
 have h : refTwo p q = swapped p q := by
  unfold refTwo swapped
  by_cases hp : p.kind = 0
  ·by_cases hq : q.kind = 0
   ·by_cases hn : p.name = q.name <;> simp [hp, hq, hn]
   ·by_cases hq3 : q.kind = 3
    ·by_cases hn : p.name = q.name
     ·simp [hp, hq3, hn]
     ·have h1 : decide (q.name = p.name) = false := by simp [show ¬ q.name = p.name from fun e => hn e.symm]
      have h2 : p.meets q = decide (p.name = q.to) := by
       unfold Prim.meets Prim.names;rw [if_neg (by omega), if_pos hq3, dcomm p.name q.to];simp only [List.any_cons, List.any_nil, h1, Bool.false_or, Bool.or_false]
      rw [if_neg (by omega), if_neg (by simp [hn]), if_neg (by omega), if_neg (by omega), if_neg (by omega), if_pos ⟨hp, hq3⟩, if_neg hn, h2]
    ·rw [if_neg (by omega), if_neg (by omega), if_neg (by omega), if_neg (by omega), if_neg (by omega), if_neg (by omega), if_neg (by omega)]
  ·by_cases hp3 : p.kind = 3
   ·by_cases hq : q.kind = 0
    ·by_cases hn : p.to = q.name
     ·simp [hp3, hq, hn]
     ·have h1 : decide (q.name = p.to) = false := by simp [show ¬ q.name = p.to from fun e => hn e.symm]
      have h2 : p.meets q = decide (p.name = q.name) := by
       unfold Prim.meets Prim.names;rw [if_pos hp3, if_neg (by omega), dcomm p.name q.name];simp only [List.any_cons, List.any_nil, h1, Bool.false_or, Bool.or_false]
      rw [if_neg (by omega), if_neg (by omega), if_neg (by simp [hn]), if_neg (by omega), if_neg (by omega), if_neg (by omega), if_pos ⟨hp3, hq⟩, if_neg hn, h2]
    ·rw [if_neg (by omega), if_neg (by omega), if_neg (by omega), if_neg (by omega), if_neg (by omega), if_neg (by omega), if_neg (by omega)]
   ·rw [if_neg (by omega), if_neg (by omega), if_neg (by omega), if_neg (by omega), if_neg (by omega), if_neg (by omega), if_neg (by omega)]
 unfold refSwap swap;rw [h]
theorem dropWhile_nil {f : UInt8 → Bool} : ∀ (l : List UInt8), l.dropWhile f = [] ↔ ∀ b ∈ l, f b = true
 | [] => by simp
 | x :: l => by
  rw [List.dropWhile_cons];have ih := dropWhile_nil (f := f) l
  by_cases h : f x = true
  ·rw [if_pos h, ih]; simp [h]
  ·rw [if_neg h]; simp [h]
theorem meets_ref (p q : Prim) : ((refNames p).any fun s => (refNames q).any fun t => decide (s = t)) = p.meets q := by
 unfold Prim.meets;rw [any_perm (refNames_perm p)]
 congr 1
 funext s
 rw [any_perm (refNames_perm q)]
 congr 1
 funext t
 exact dcomm s t
theorem trimS_nil (l cs : List UInt8) : Lib.trimS l cs = [] ↔ ∀ b ∈ l, cs.contains b = true := by
 unfold Lib.trimS Lib.trimLeftS Lib.trimRightS;constructor
 ·intro h b hb;have h1 : ∀ x ∈ (l.reverse.dropWhile (cs.contains ·)).reverse, cs.contains x = true := by
   have := (dropWhile_nil _).1 h;exact this
  have h2 : l.reverse = l.reverse.takeWhile (cs.contains ·) ++ l.reverse.dropWhile (cs.contains ·) := (List.takeWhile_append_dropWhile).symm;have hb' : b ∈ l.reverse := by simpa using hb
  rw [h2] at hb';rcases List.mem_append.1 hb' with h3 | h3
  ·exact List.all_eq_true.1 (List.all_takeWhile (p := (cs.contains ·)) (l := l.reverse)) b h3
  ·exact h1 b (by simpa using h3)
 ·intro h;rw [dropWhile_nil];intro x hx;have : x ∈ l := by
   have := (List.dropWhile_sublist _).mem (by simpa using hx : x ∈ l.reverse.dropWhile (cs.contains ·))
   simpa using this
  exact h x this
end Go.Sx
end
section
namespace Go.Sx
open Go Go.RowKit Go.Proofs Go.Joins Go.ChangeShapes Go.WideShapes Go.Deep
structure Bulk (H : Type) where
 one : DataW H → Nat
 all : List (DataW H) → Nat
 nil : all [] = 0
 cons : ∀ d r, all (d :: r) = one d + all r
 str : ∀ s, one (.lit (.string s)) = s.length + 1
 slc : ∀ e s, one (.slice e s) = all e + all s + 1
 agg : ∀ l, one (.agg l) = all l + 1
section
variable {H : Type} {enc : TypeId × Value → H} {P : Program} {w : World}
theorem cell_lit {a : Addr} {v : Value} {j : Nat} (h : w.cell? (a.add j) = some v) (h0 : ∃ u, w.cell? (a.add 0) = some u) : ∃ b o, a = ⟨b, o, none⟩ ∧ b < w.heap.size ∧ w.cell? ⟨b, o + j, none⟩ = some v := by
 obtain ⟨b, o, sp⟩ := a;obtain ⟨u, hu⟩ := h0;have hsp : sp = none := by
  cases sp with
  | none => rfl
  | some z =>
   simp only [Addr.add, if_true, World.cell?] at hu
   split at hu <;> simp at hu
 subst hsp;refine ⟨b, o, rfl, ?_, ?_⟩
 ·simp only [Addr.add, if_true, World.cell?] at hu;cases hb : w.heap[b]? with
  | none => simp [hb] at hu
  | some x => exact (Array.getElem?_eq_some_iff.1 hb).1
 ·rw [Addr.add_lit] at h;exact h
theorem open_strs {t e : TypeId} {fuel : Nat} {v : Value} {x : DataW H × List MemPlace} (B : Bulk H) (ht : P.underlying t = some (.slice e)) (he : P.underlying e = some .string) (hc : P.cellsOf e = 1)
  (h : DataW.trod enc P w 0 (fun _ => true) true fuel t [v] = some x) :
  ∃ (l : List ByteArray) (y : Option Addr × Nat), v = .slice y.1 l.length y.2 ∧ (slA y.1 l).p (fun _ => False) w ∧ (x.1 = .nil ∨ l.length + sizes l ≤ B.one x.1) ∧ (x.1 = .nil → l = []) := by
 rcases open_strings ht he hc h with ⟨hcs, hx⟩ | ⟨a, len, cap, ss, hcs, _, hl, hm, hz, hx, hcell, hws⟩
 ·cases hcs;exact ⟨[], (none, 0), rfl, (fun j x hj => by simp at hj), .inl (by rw [hx]), fun _ => rfl⟩
 ·cases hcs;simp only [if_true] at hz;have hlen : (ss.take len).length = len := by rw [List.length_take]; omega
  refine ⟨ss.take len, (some a, cap), by rw [hlen], ?_, .inr ?_, fun h => by rw [hx] at h; cases h⟩
  ·intro j s hj;have hjl : j < len := by have := (List.getElem?_eq_some_iff.1 hj).1; omega
   have hjs : ss[j]? = some s := by rw [List.getElem?_take_of_lt hjl] at hj; exact hj
   have hcj := hcell j (by omega);rw [List.getD_eq_getElem?_getD, hjs] at hcj;obtain ⟨b, o, rfl, hb, hc2⟩ := cell_lit hcj ⟨_, hcell 0 (by omega)⟩;refine ⟨b, o, (), rfl, id, hb, fun i v hi => ?_, (fun p hp => by cases hp)⟩;have hi0 : i = 0 := by
    have := (List.getElem?_eq_some_iff.1 hi).1;have e : (Rp.enc s ()).length = 1 := rfl;omega
   subst hi0;have hv : v = .string s := by
    have : (Rp.enc s ())[0]? = some (Value.string s) := rfl;rw [this] at hi; cases hi; rfl
   subst hv;show w.cell? ⟨b, o + j * 1 + 0, none⟩ = _;rw [Nat.mul_one, Nat.add_zero];exact hc2
  ·rw [hx];simp only;rw [B.slc];have : ∀ (l : List ByteArray), l.length + sizes l ≤ B.all (strs l) := by
    intro l
    induction l with
    | nil => simp [sizes]
    | cons s l ih =>
     have e : (strs (s :: l) : List (DataW H)) = .lit (.string s.data.toList) :: strs l := rfl;rw [e, B.cons, B.str];have e2 : s.data.toList.length = s.size := by rw [Array.length_toList]; rfl
     simp only [sizes, List.map_cons, List.sum_cons, List.length_cons] at ih ⊢;omega
   have := this (ss.take len);omega
theorem open_prim_at {t : TypeId} {f0 f1 f2 f3 f4 f5 : Field} {cs : List Value} {fuel : Nat} {x : DataW H × List MemPlace} (B : Bulk H) (hs : P.underlying t = some (.struct #[f0, f1, f2, f3, f4, f5])) (hone : oneCellFields P #[f0, f1, f2, f3, f4, f5] = true) (hC : P.cellsOf t = 6)
  {e : TypeId} (h0 : P.underlying f0.type = some (.int .i64)) (h1 : P.underlying f1.type = some .string) (h2 : P.underlying f2.type = some .string) (h3 : P.underlying f3.type = some (.int .i64)) (h4 : P.underlying f4.type = some (.slice e)) (h5 : P.underlying f5.type = some (.slice e)) (he : P.underlying e = some .string) (hc : P.cellsOf e = 1)
  (hf : DataW.trod enc P w 0 (fun _ => true) true fuel t cs = some x) :
  ∃ (z : Prim) (y : Rp.Lay Prim), cs = Rp.enc z y ∧ (∀ a ∈ Rp.asn z y, a.p (fun _ => False) w) ∧ z.many + 1 ≤ B.one x.1 := by
 obtain ⟨xs, n, _, hx, hsz, hlen, hg⟩ := DataW.trod_struct hs hf
 match cs, hsz.trans hC with
 | [c0, c1, c2, c3, c4, c5], _ =>
  obtain ⟨o0, k0⟩ := hone_of hone 0 f0 rfl;obtain ⟨o1, k1⟩ := hone_of hone 1 f1 rfl;obtain ⟨o2, k2⟩ := hone_of hone 2 f2 rfl;obtain ⟨o3, k3⟩ := hone_of hone 3 f3 rfl;obtain ⟨o4, k4⟩ := hone_of hone 4 f4 rfl;obtain ⟨o5, k5⟩ := hone_of hone 5 f5 rfl
  match xs, hlen with
  | [y0, y1, y2, y3, y4, y5], _ =>
   subst hx;have g0 : DataW.trod enc P w 0 (fun _ => true) true n f0.type [c0] = some y0 := by simpa [o0, k0] using hg 0 f0 rfl
   have g1 : DataW.trod enc P w 0 (fun _ => true) true n f1.type [c1] = some y1 := by simpa [o1, k1] using hg 1 f1 rfl
   have g2 : DataW.trod enc P w 0 (fun _ => true) true n f2.type [c2] = some y2 := by simpa [o2, k2] using hg 2 f2 rfl
   have g3 : DataW.trod enc P w 0 (fun _ => true) true n f3.type [c3] = some y3 := by simpa [o3, k3] using hg 3 f3 rfl
   have g4 : DataW.trod enc P w 0 (fun _ => true) true n f4.type [c4] = some y4 := by simpa [o4, k4] using hg 4 f4 rfl
   have g5 : DataW.trod enc P w 0 (fun _ => true) true n f5.type [c5] = some y5 := by simpa [o5, k5] using hg 5 f5 rfl
   obtain ⟨z0, q0, e0, _⟩ := DataW.trod_int h0 g0;obtain ⟨s1, q1, e1, _⟩ := DataW.trod_string h1 g1;obtain ⟨s2, q2, e2, _⟩ := DataW.trod_string h2 g2;obtain ⟨z3, q3, e3, _⟩ := DataW.trod_int h3 g3;obtain ⟨l4, u4, q4, a4, b4, n4⟩ := open_strs B h4 he hc g4;obtain ⟨l5, u5, q5, a5, b5, n5⟩ := open_strs B h5 he hc g5;cases q0; cases q1; cases q2; cases q3; subst q4; subst q5;refine ⟨⟨z0, s1, s2, z3, l4, l5⟩, (u4, u5), rfl, ?_, ?_⟩
   ·intro a ha;have ha' : a = slA u4.1 l4 ∨ a = slA u5.1 l5 := by simpa [Rp.asn] using ha
    rcases ha' with rfl | rfl
    ·exact a4
    ·exact a5
   ·simp only [List.map_cons, List.map_nil];rw [B.agg];simp only [B.cons, B.nil];rw [e1, e2];simp only [B.str];have e7 : s1.data.toList.length = s1.size := by rw [Array.length_toList]; rfl
    have e8 : s2.data.toList.length = s2.size := by rw [Array.length_toList]; rfl
    have m4 : l4.length + sizes l4 ≤ B.one y4.1 := by
     rcases b4 with h | h
     ·rw [n4 h]; simp [sizes]
     ·exact h
    have m5 : l5.length + sizes l5 ≤ B.one y5.1 := by
     rcases b5 with h | h
     ·rw [n5 h]; simp [sizes]
     ·exact h
    simp only [Prim.many];omega
theorem con_row {f : FuncId} {vs : List Value} {Γi : List Asn} {r : Value} (h : Con P f vs [] Γi Unit (fun _ => r) (fun _ => []) (fun _ => [])) (hg : ∀ a ∈ Γi, a.p (fun _ => False) w) :
  Calls P f vs.toArray w fun e w' => e = .returned r ∧ Below w.heap.size w w' := by
 refine (h (fun _ => False) [] w ⟨trivial, List.Pairwise.nil, (fun b hb => (own_nil b hb).elim), (fun b hb => (own_nil b hb).elim), (fun b hb => (own_nil b hb).elim), ?_, Upd.refl _ _, (fun b hb => hb.elim), (fun b hb => (own_nil b hb).elim)⟩).mono ?_
 ·intro a ha;exact a.st _ _ _ _ (hg a ha) (fun _ _ _ => rfl) (fun b _ hb => hb.elim (fun h => h) (fun h => own_nil b h)) (Nat.le_refl _)
 ·rintro e w' ⟨_, Fs', rfl, hh⟩;exact ⟨rfl, hh.up.below fun b hb hb' => own_nil b hb'⟩
end
end Go.Sx
end
section
namespace Go.Sx
open Go Go.RowKit Go.Proofs Go.Joins Go.ChangeShapes Go.WideShapes Go.Deep
/-! Slices that came in, of whatever is opened. -/
structure BulkI (H : Type) extends Bulk H where
 int : ∀ k z, one (.lit (.int k z)) = 1
section
variable {H : Type} {enc : TypeId × Value → H} {P : Program} {w : World}
theorem cell_at {a : Addr} {v : Value} (h : w.cell? ((a.add 0).add 0) = some v) : ∃ b o, a = ⟨b, o, none⟩ := by
 obtain ⟨b, o, sp⟩ := a;cases sp with
 | none => exact ⟨b, o, rfl⟩
 | some z =>
  simp only [Addr.add, World.cell?] at h
  split at h <;> simp_all
theorem open_slice {α : Type} [Rp α] {t e : TypeId} {fuel : Nat} {v : Value} {x : DataW H × List MemPlace} (B : Bulk H) (ht : P.underlying t = some (.slice e)) (hc : P.cellsOf e = Rp.size α) (hsz : 0 < Rp.size α) (W : α → Nat)
  (he : ∀ n cs x, DataW.trod enc P w 0 (fun _ => true) true n e cs = some x → ∃ (z : α) (y : Rp.Lay α), cs = Rp.enc z y ∧ (∀ a ∈ Rp.asn z y, a.p (fun _ => False) w) ∧ W z + 1 ≤ B.one x.1)
  (h : DataW.trod enc P w 0 (fun _ => true) true fuel t [v] = some x) :
  ∃ (l : List α) (y : Option Addr × Nat), v = .slice y.1 l.length y.2 ∧ (slA y.1 l).p (fun _ => False) w ∧ l.length + (l.map W).sum ≤ B.one x.1 ∧ l.length ≤ y.2 ∧ (B.one .nil = 1 → l.length + (l.map W).sum + 1 ≤ B.one x.1) ∧ (y.1 = none → y.2 = 0) := by
 rcases DataW.trod_slice ht h with ⟨h0, hx0⟩ | ⟨a, len, cap, elems, rest, n, _, h0, hx, hb, hl, hm, hlen, hel, _, _⟩
 ·cases h0;exact ⟨[], (none, 0), rfl, (fun j x hj => by simp at hj), by simp, Nat.zero_le _, fun h1 => by rw [hx0]; simp [h1], fun _ => rfl⟩
 ·cases h0;have key : ∀ k, k ≤ len → ∃ l : List α, l.length = k ∧ (l.length + (l.map W).sum ≤ B.all ((elems.take k).map (·.1))) ∧
    ∀ j z, l[j]? = some z → ∃ y : Rp.Lay α, (∀ i v, (Rp.enc z y)[i]? = some v → w.cell? ((a.add (j * Rp.size α)).add i) = some v) ∧ ∀ p ∈ Rp.asn z y, p.p (fun _ => False) w := by
   intro k
   induction k with
   | zero => exact fun _ => ⟨[], rfl, by simp [B.nil], fun j z hj => by simp at hj⟩
   | succ k ih =>
    intro hk;obtain ⟨l, h1, h2, h3⟩ := ih (by omega);have hk1 : k < elems.length := by omega
    have hr := hel k (by omega);rw [List.getElem?_eq_getElem hk1, Option.bind_eq_some_iff] at hr;obtain ⟨cs, hcs, htr⟩ := hr;obtain ⟨z, y, rfl, hy, hw⟩ := he _ _ _ htr;rw [hc] at hcs;obtain ⟨_, _, hcell⟩ := World.cells?_some hcs;refine ⟨l ++ [z], by simp [h1], ?_, fun j z' hj => ?_⟩
    ·have hall : ∀ (xs : List (DataW H)) (d : DataW H), B.all (xs ++ [d]) = B.all xs + B.one d := by
      intro xs d
      induction xs with
      | nil => simp [B.cons, B.nil]
      | cons x xs ih => rw [List.cons_append, B.cons, B.cons, ih]; omega
     have e5 : (elems.take (k + 1)).map (·.1) = (elems.take k).map (·.1) ++ [elems[k].1] := by rw [List.take_succ_eq_append_getElem hk1, List.map_append]; rfl
     rw [e5, hall];simp only [List.length_append, List.map_append, List.sum_append, List.length_cons, List.length_nil, List.map_cons, List.map_nil, List.sum_cons, List.sum_nil];omega
    ·rcases Nat.lt_or_ge j l.length with hj' | hj'
     ·rw [List.getElem?_append_left hj'] at hj;exact h3 j z' hj
     ·rw [List.getElem?_append_right hj'] at hj;have hj0 : j - l.length = 0 := by
       have := (List.getElem?_eq_some_iff.1 hj).1
       simpa using this
      have hje : j = k := by omega
      subst hje;rw [hj0] at hj;have : z = z' := by simpa using hj
      subst this;refine ⟨y, fun i v hi => ?_, hy⟩;have hlt := (List.getElem?_eq_some_iff.1 hi).1;rw [Rp.len] at hlt;rw [hcell i hlt];exact hi
  obtain ⟨l, h1, h2, h3⟩ := key len (Nat.le_refl _);have htk : elems.take len = elems := List.take_of_length_le (by omega);rw [htk] at h2;refine ⟨l, (some a, cap), by rw [h1], ?_, ?_, by dsimp only; omega, fun _ => ?_, fun h => by cases h⟩
  ·intro j z hj;obtain ⟨y, hy1, hy2⟩ := h3 j z hj;have hl0 : 0 < l.length := by have := (List.getElem?_eq_some_iff.1 hj).1; omega
   obtain ⟨y0, hy0, _⟩ := h3 0 l[0] (List.getElem?_eq_getElem hl0);have hpos : 0 < (Rp.enc l[0] y0).length := by rw [Rp.len]; exact hsz
   have hc0 := hy0 0 _ (List.getElem?_eq_getElem hpos);rw [Nat.zero_mul] at hc0;obtain ⟨b, o, rfl⟩ := cell_at hc0;have hlt : b < w.heap.size := by
    rw [Addr.add_lit, Addr.add_lit] at hc0;simp only [World.cell?] at hc0;cases hb : w.heap[b]? with
    | none => simp [hb] at hc0
    | some x => exact (Array.getElem?_eq_some_iff.1 hb).1
   refine ⟨b, o, y, rfl, id, hlt, fun i v hi => ?_, hy2⟩;have := hy1 i v hi;rw [Addr.add_lit, Addr.add_lit] at this;exact this
  ·rw [hx];simp only;rw [B.slc];omega
  ·rw [hx];simp only;rw [B.slc];omega
theorem open_ints1 {t e : TypeId} {fuel : Nat} {v : Value} {x : DataW H × List MemPlace} (B : BulkI H) (ht : P.underlying t = some (.slice e)) (he : P.underlying e = some (.int .i64)) (hc : P.cellsOf e = 1)
  (h : DataW.trod enc P w 0 (fun _ => true) true fuel t [v] = some x) :
  ∃ (l : List Int) (y : Option Addr × Nat), v = .slice y.1 l.length y.2 ∧ (slA y.1 l).p (fun _ => False) w ∧ l.length ≤ B.one x.1 := by
 obtain ⟨l, y, h1, h2, h3, _⟩ := open_slice (α := Int) B.toBulk ht hc (by decide) (fun _ => 0) (fun n cs x hx => by
  obtain ⟨z, e1, e2, _⟩ := DataW.trod_int he hx;refine ⟨z, (), e1, (fun a ha => by cases ha), ?_⟩;rw [e2];simp only;rw [B.int]; exact Nat.le_refl _) h
 refine ⟨l, y, h1, h2, ?_⟩;have e6 : ∀ l : List Int, (l.map fun _ => 0).sum = 0 := by
  intro l
  induction l with
  | nil => rfl
  | cons x l ih => simp only [List.map_cons, List.sum_cons, ih]
 have := e6 l;omega
end
end Go.Sx
end
section
namespace Go.Sx
open Go
theorem flip_kind (p : Prim) : (p.flip.kind = 0 ↔ p.kind = 0) ∧ (p.flip.kind = 3 ↔ p.kind = 3) := by
 unfold Prim.flip
 split
 ·simp_all
 ·split
  ·rename_i h0 h
   show (3 - p.kind = 0 ↔ p.kind = 0) ∧ (3 - p.kind = 3 ↔ p.kind = 3);omega
  ·split
   ·simp_all
   ·simp_all
theorem flip_right (p : Prim) : p.flip.right = p.right := by
 obtain ⟨k, a, b, n, o, w⟩ := p;unfold Prim.flip Prim.right Prim.bare
 by_cases h0 : k = 0
 ·simp only [h0, if_true];rw [show decide (w = o) = decide (o = w) from by by_cases h : o = w <;> simp [h, eq_comm]]
  cases nameOk a <;> cases decide (b = ⟨#[]⟩) <;> cases decide (0 ≤ n) <;> cases decide (n ≤ 1048576) <;> cases o.all lineOk <;> cases w.all lineOk <;> simp
 ·by_cases h1 : k = 1
  ·simp [h1]
  ·by_cases h2 : k = 2
   ·simp [h2]
   ·by_cases h3 : k = 3
    ·simp only [h3];simp only [show ¬ ((3 : Int) = 0) by decide, show ¬ ((3 : Int) = 1 ∨ (3 : Int) = 2) by decide, if_true, if_false];rw [dcomm a b];cases nameOk a <;> cases nameOk b <;> simp
    ·simp [h0, h1, h2, h3]
theorem swap_true {p q a b : Prim} (h : swap p q = (a, b, true)) : swapped p q = (a, b, true) ∧ p.right = true ∧ q.right = true ∧ a.right = true ∧ b.right = true := by
 unfold swap at h
 split at h
 ·rename_i hc
  simp only [Bool.and_eq_true] at hc;obtain ⟨⟨⟨⟨h1, h2⟩, h3⟩, h4⟩, h5⟩ := hc;simp only [Prod.mk.injEq, and_true] at h;obtain ⟨rfl, rfl⟩ := h;refine ⟨?_, h1, h2, h4, h5⟩;rw [← h3]
 ·simp at h
theorem swapped_cases {p q a b : Prim} (h : swapped p q = (a, b, true)) :
  (p.kind = 0 ∧ q.kind = 0 ∧ p.name = q.name ∧ p.pos + p.new.length < q.pos ∧ a = { q with pos := q.pos - ((p.new.length : Int) - p.old.length) } ∧ b = p) ∨
  (p.kind = 0 ∧ q.kind = 0 ∧ p.name = q.name ∧ q.pos + q.old.length < p.pos ∧ a = q ∧ b = { p with pos := p.pos + ((q.new.length : Int) - q.old.length) }) ∨
  (p.kind = 0 ∧ q.kind = 0 ∧ p.name ≠ q.name ∧ a = q ∧ b = p) ∨
  (p.kind = 0 ∧ q.kind = 3 ∧ p.name = q.name ∧ a = q ∧ b = { p with name := q.to }) ∨
  (p.kind = 0 ∧ q.kind = 3 ∧ p.name ≠ q.name ∧ p.name ≠ q.to ∧ a = q ∧ b = p) ∨
  (p.kind = 3 ∧ q.kind = 0 ∧ p.to = q.name ∧ a = { q with name := p.name } ∧ b = p) ∨
  (p.kind = 3 ∧ q.kind = 0 ∧ p.to ≠ q.name ∧ p.name ≠ q.name ∧ a = q ∧ b = p) ∨
  (¬ (p.kind = 0 ∧ q.kind = 0) ∧ ¬ (p.kind = 0 ∧ q.kind = 3) ∧ ¬ (p.kind = 3 ∧ q.kind = 0) ∧ p.meets q = false ∧ a = q ∧ b = p) := by
 unfold swapped hunks at h
 by_cases h1 : p.kind = 0 ∧ q.kind = 0
 ·rw [if_pos h1] at h
  by_cases hn : p.name = q.name
  ·rw [if_pos hn] at h
   by_cases c1 : p.pos + p.new.length < q.pos
   ·rw [if_pos c1] at h;simp only [Prod.mk.injEq] at h;exact .inl ⟨h1.1, h1.2, hn, c1, h.1.symm, h.2.1.symm⟩
   ·rw [if_neg c1] at h
    by_cases c2 : q.pos + q.old.length < p.pos
    ·rw [if_pos c2] at h;simp only [Prod.mk.injEq] at h;exact .inr (.inl ⟨h1.1, h1.2, hn, c2, h.1.symm, h.2.1.symm⟩)
    ·rw [if_neg c2] at h;simp at h
  ·rw [if_neg hn] at h;simp only [Prod.mk.injEq] at h;exact .inr (.inr (.inl ⟨h1.1, h1.2, hn, h.1.symm, h.2.1.symm⟩))
 ·rw [if_neg h1] at h
  by_cases h2 : p.kind = 0 ∧ q.kind = 3
  ·rw [if_pos h2] at h
   by_cases hn : p.name = q.name
   ·rw [if_pos hn] at h;simp only [Prod.mk.injEq] at h;exact .inr (.inr (.inr (.inl ⟨h2.1, h2.2, hn, h.1.symm, h.2.1.symm⟩)))
   ·rw [if_neg hn] at h;simp only [Prod.mk.injEq, Bool.not_eq_true', decide_eq_false_iff_not] at h;exact .inr (.inr (.inr (.inr (.inl ⟨h2.1, h2.2, hn, h.2.2, h.1.symm, h.2.1.symm⟩))))
  ·rw [if_neg h2] at h
   by_cases h3 : p.kind = 3 ∧ q.kind = 0
   ·rw [if_pos h3] at h
    by_cases hn : p.to = q.name
    ·rw [if_pos hn] at h;simp only [Prod.mk.injEq] at h;exact .inr (.inr (.inr (.inr (.inr (.inl ⟨h3.1, h3.2, hn, h.1.symm, h.2.1.symm⟩)))))
    ·rw [if_neg hn] at h;simp only [Prod.mk.injEq, Bool.not_eq_true', decide_eq_false_iff_not] at h;exact .inr (.inr (.inr (.inr (.inr (.inr (.inl ⟨h3.1, h3.2, hn, h.2.2, h.1.symm, h.2.1.symm⟩))))))
   ·rw [if_neg h3] at h;simp only [Prod.mk.injEq, Bool.not_eq_true'] at h;exact .inr (.inr (.inr (.inr (.inr (.inr (.inr ⟨h1, h2, h3, h.2.2, h.1.symm, h.2.1.symm⟩))))))
theorem flip0 {p : Prim} (h : p.kind = 0) : p.flip = { p with old := p.new, new := p.old } := by rw [Prim.flip, if_pos h]
theorem flip3 {p : Prim} (h : p.kind = 3) : p.flip = { p with name := p.to, to := p.name } := by rw [Prim.flip, if_neg (by omega), if_neg (by omega), if_pos h]
theorem swap_keeps {p q a b : Prim} (h : swap p q = (a, b, true)) : (a.kind = q.kind ∧ a.old.length = q.old.length ∧ a.new.length = q.new.length ∧ (a.kind = 0 ∨ a = q)) ∧ (b.kind = p.kind ∧ b.old.length = p.old.length ∧ b.new.length = p.new.length ∧ (b.kind = 0 ∨ b = p)) := by
 obtain ⟨h1, h2, h3, h4, h5⟩ := swap_true h;rcases swapped_cases h1 with ⟨h0, h1, hn, hc, rfl, rfl⟩ | ⟨h0, h1, hn, hc, rfl, rfl⟩ | ⟨h0, h1, hn, rfl, rfl⟩ | ⟨h0, h1, hn, rfl, rfl⟩ | ⟨h0, h1, hn, ht, rfl, rfl⟩ | ⟨h0, h1, hn, rfl, rfl⟩ | ⟨h0, h1, hn, ht, rfl, rfl⟩ | ⟨h1, h2, h3, hm, rfl, rfl⟩ <;> simp_all
end Go.Sx
end
section
namespace Go.Sx
open Go
def past1 (p : Prim) : List Prim → Option (List Prim × Prim)
 | [] => some ([], p)
 | q :: m => if (swap p q).2.2 = true then (past1 (swap p q).2.1 m).map fun r => ((swap p q).1 :: r.1, r.2) else none
def swapR : List Prim → List Prim → List Prim → Option (List Prim × List Prim)
 | [], first, second => some (first, second)
 | p :: l, first, second => (past1 p first).bind fun r => swapR l r.1 (r.2 :: second)
def swapL (l m : List Prim) : Option (List Prim × List Prim) := swapR l.reverse m []
def Pas (p : Prim) (m f : List Prim) (q : Prim) : Prop := past1 p m = some (f, q)
theorem pas_nil {p q : Prim} {f : List Prim} : Pas p [] f q ↔ f = [] ∧ q = p := by
 unfold Pas past1;simp [eq_comm]
theorem pas_cons {p x q : Prim} {m f : List Prim} : Pas p (x :: m) f q ↔ ∃ a b f', swap p x = (a, b, true) ∧ Pas b m f' q ∧ f = a :: f' := by
 unfold Pas;rw [past1];constructor
 ·intro h
  split at h
  ·rename_i hc
   rw [Option.map_eq_some_iff] at h;obtain ⟨r, h1, h2⟩ := h;obtain ⟨r1, r2⟩ := r;simp only [Prod.mk.injEq] at h2;exact ⟨_, _, r1, by rw [← hc], by rw [h1, h2.2], h2.1.symm⟩
  ·cases h
 ·rintro ⟨a, b, f', h1, h2, rfl⟩;rw [h1];simp [h2]
inductive Grid : List Prim → List Prim → List Prim → List Prim → Prop
 | nil {m} : Grid [] m m []
 | row {l p m n q f s} : Pas p m n q → Grid l n f s → Grid (l ++ [p]) m f (s ++ [q])
def pastT (p : Prim) (m : List Prim) : List Prim × Prim × Bool := match past1 p m with
 | some r => (r.1, r.2, true)
 | none => ([], Prim.zero, false)
def PI (p : Prim) (m : List Prim) (k : Nat) (f : List Prim) (p' : Prim) : Prop := past1 p m = (past1 p' (m.drop k)).map fun r => (f ++ r.1, r.2)
theorem PI.start (p : Prim) (m : List Prim) : PI p m 0 [] p := by
 unfold PI;cases h : past1 p m <;> simp [h]
theorem PI.step {p p' a b : Prim} {m f : List Prim} {k : Nat} (h : PI p m k f p') (hk : k < m.length) (hs : (a, b, true) = swap p' m[k]) : PI p m (k + 1) (f ++ [a]) b := by
 unfold PI at *;rw [h, List.drop_eq_getElem_cons hk, past1, ← hs];simp only [if_true];cases past1 b (m.drop (k + 1)) <;> simp
theorem PI.stop {p p' a b : Prim} {m f : List Prim} {k : Nat} (h : PI p m k f p') (hk : k < m.length) (hs : (a, b, false) = swap p' m[k]) : pastT p m = ([], Prim.zero, false) := by
 unfold PI at h;unfold pastT;rw [h, List.drop_eq_getElem_cons hk, past1, ← hs]
 rfl
theorem PI.done {p p' : Prim} {m f : List Prim} {k : Nat} (h : PI p m k f p') (hk : ¬ k < m.length) : pastT p m = (f, p', true) := by
 unfold PI at h;unfold pastT;rw [h, List.drop_eq_nil_of_le (by omega), past1];simp
end Go.Sx
end
section
namespace Go.Proofs.YtbhnolfcdcpbkaaGreatDoor.X
open Go Go.RowKit Go.Proofs Go.Sx
theorem zero_fit : Prim.zero.fit := ⟨by decide, by decide, by decide, by decide, (fun s h => by cases h), (fun s h => by cases h)⟩
theorem swap_fit {p q : Prim} (hp : p.fit) (hq : q.fit) : (swap p q).1.fit ∧ (swap p q).2.1.fit := by
 unfold swap
 split
 ·exact swapped_fit hp hq
 ·exact ⟨zero_fit, zero_fit⟩
theorem past1_ok : ∀ {m : List Prim} {p q : Prim} {f : List Prim}, past1 p m = some (f, q) → p.fit → (∀ x ∈ m, x.fit) → f.length = m.length ∧ q.fit ∧ ∀ x ∈ f, x.fit
 | [], p, q, f, h, hp, _ => by
  simp only [past1, Option.some.injEq, Prod.mk.injEq] at h;obtain ⟨rfl, rfl⟩ := h;exact ⟨rfl, hp, by simp⟩
 | x :: m, p, q, f, h, hp, hm => by
  rw [past1] at h
  split at h
  ·rw [Option.map_eq_some_iff] at h;obtain ⟨⟨r1, r2⟩, h1, h2⟩ := h;simp only [Prod.mk.injEq] at h2;obtain ⟨rfl, rfl⟩ := h2;obtain ⟨e1, e2⟩ := swap_fit hp (hm x (by simp));obtain ⟨k1, k2, k3⟩ := past1_ok h1 e2 (fun y hy => hm y (by simp [hy]));refine ⟨by simp [k1], k2, fun y hy => ?_⟩;rcases List.mem_cons.1 hy with rfl | hy
   ·exact e1
   ·exact k3 y hy
  ·cases h
theorem pastT_true {p q : Prim} {m f : List Prim} (h : (f, q, true) = pastT p m) : past1 p m = some (f, q) := by
 unfold pastT at h;cases hh : past1 p m with
 | none => rw [hh] at h; simp at h
 | some r => rw [hh] at h; simp only [Prod.mk.injEq, and_true] at h; rw [h.1, h.2]
theorem pastT_false {p q : Prim} {m f : List Prim} (h : (f, q, false) = pastT p m) : past1 p m = none := by
 unfold pastT at h;cases hh : past1 p m with
 | none => rfl
 | some r => rw [hh] at h; simp at h
def swT (l m : List Prim) : List Prim × List Prim × Bool := match swapL l m with
 | some r => (r.1, r.2, true)
 | none => ([], [], false)
structure SI (l m : List Prim) (j : Nat) (f s : List Prim) : Prop where
 eq : swapL l m = swapR (l.reverse.drop j) f s
 fl : f.length = m.length
 sl : s.length = j
 ff : ∀ x ∈ f, x.fit
 fs : ∀ x ∈ s, x.fit
theorem SI.start {l m : List Prim} (h : ∀ x ∈ m, x.fit) : SI l m 0 m [] := ⟨rfl, rfl, rfl, h, by simp⟩
theorem rev_drop {α : Type} {l : List α} {j k : Nat} (h : k + j + 1 = l.length) : l.reverse.drop j = l[k] :: l.reverse.drop (j + 1) := by
 have hj : j < l.reverse.length := by simp; omega
 rw [List.drop_eq_getElem_cons hj, List.getElem_reverse]
 congr 2
 omega
theorem SI.step {l m f s f' : List Prim} {j k : Nat} {q : Prim} (h : SI l m j f s) (hk : k + j + 1 = l.length) (hl : ∀ x ∈ l, x.fit) (hp : (f', q, true) = pastT l[k] f) : SI l m (j + 1) f' (q :: s) := by
 have h1 := pastT_true hp;obtain ⟨k1, k2, k3⟩ := past1_ok h1 (hl _ (List.getElem_mem _)) h.ff;refine ⟨?_, k1.trans h.fl, by simp [h.sl], k3, fun y hy => ?_⟩
 ·rw [h.eq, rev_drop hk, swapR, h1]; rfl
 ·rcases List.mem_cons.1 hy with rfl | hy
  ·exact k2
  ·exact h.fs y hy
theorem SI.stop {l m f s f' : List Prim} {j k : Nat} {q : Prim} (h : SI l m j f s) (hk : k + j + 1 = l.length) (hp : (f', q, false) = pastT l[k] f) : swT l m = ([], [], false) := by
 unfold swT;rw [h.eq, rev_drop hk, swapR, pastT_false hp]; rfl
theorem SI.done {l m f s : List Prim} {j : Nat} (h : SI l m j f s) (hj : j = l.length) : swT l m = (f, s, true) := by
 unfold swT;rw [h.eq, List.drop_eq_nil_of_le (by simp; omega), swapR]
theorem mid_get1 {α : Type} {T d r : List α} {p : α} {k : Nat} (hk : k = T.length + d.length) : (T ++ (d ++ p :: r))[k]? = some p := by
 subst hk; simp
theorem mid_get2 {α : Type} {T d r : List α} {p q : α} {k : Nat} (hk : k = T.length + d.length + 1) : (T ++ (d ++ p :: q :: r))[k]? = some q := by
 subst hk;rw [List.getElem?_append_right (by omega), List.getElem?_append_right (by omega)];have : T.length + d.length + 1 - T.length - d.length = 1 := by omega
 rw [this]; rfl
theorem mid_set {α : Type} {T d r : List α} {p q a b : α} {k : Nat} (hk : k = T.length + d.length) : ((T ++ (d ++ p :: q :: r)).set k a).set (k + 1) b = T ++ ((d ++ [a]) ++ (b :: r)) := by
 subst hk;apply List.ext_getElem?;intro i;simp only [List.getElem?_set, List.getElem?_append, List.length_append, List.length_cons, List.length_set, List.length_nil, List.getElem?_cons]
 grind
end Go.Proofs.YtbhnolfcdcpbkaaGreatDoor.X
end
section
namespace Go.Sx
open Go Go.RowKit Go.Proofs.YtbhnolfcdcpbkaaGreatDoor.X
def invL (l : List Prim) : List Prim := l.reverse.map Prim.flip
theorem flipFit {p : Prim} (h : p.fit) : p.flip.fit := by
 obtain ⟨h1, h2, h3, h4, h5, h6⟩ := h;unfold Prim.flip
 split
 ·exact ⟨h2, h1, h3, h4, h6, h5⟩
 ·split
  ·exact ⟨h1, h2, h3, h4, h5, h6⟩
  ·split <;> first | exact ⟨h1, h2, h4, h3, h5, h6⟩ | exact ⟨h1, h2, h3, h4, h5, h6⟩
theorem invL_fit {l : List Prim} (h : ∀ x ∈ l, x.fit) : ∀ x ∈ invL l, x.fit := by
 intro x hx;unfold invL at hx;rw [List.mem_map] at hx;obtain ⟨y, hy, rfl⟩ := hx;exact flipFit (h y (List.mem_reverse.1 hy))
theorem invL_len (l : List Prim) : (invL l).length = l.length := by simp [invL]
def invP (l : List Prim) (k : Nat) : List Prim := (l.reverse.take k).map Prim.flip
theorem invP_len (l : List Prim) {k : Nat} (h : k ≤ l.length) : (invP l k).length = k := by simp [invP]; omega
theorem invP_all (l : List Prim) : invP l l.length = invL l := by
 unfold invP invL;rw [List.take_of_length_le (by simp)]
theorem invP_step {l : List Prim} {u j : Nat} (h : u + j + 1 = l.length) : invP l (j + 1) = invP l j ++ [(l[u]'(by omega)).flip] := by
 unfold invP;have hj : j < l.reverse.length := by simp; omega
 rw [List.take_succ_eq_append_getElem hj, List.map_append, List.getElem_reverse]
 congr 3
 simp only [List.map_cons, List.map_nil, List.cons.injEq, and_true]
 congr 2
 omega
def least (V n : Nat) : Nat := V + (n - 64)
def atP (V : Nat) (rows : List (List Prim)) (z : Int) : List Prim × Bool := if ((least V rows.length : Nat) : Int) < z ∧ z ≤ ((V + rows.length : Nat) : Int) then (rows.getD (z.toNat - V - 1) [], true) else ([], false)
theorem atP_no {V : Nat} {rows : List (List Prim)} {z : Int} (h : (decide (z ≤ ((least V rows.length : Nat) : Int)) || decide (((V + rows.length : Nat) : Int) < z)) = true) : atP V rows z = ([], false) := by
 simp only [Bool.or_eq_true, decide_eq_true_eq] at h;unfold atP;rw [if_neg (by omega)]
theorem atP_yes {V : Nat} {rows : List (List Prim)} {z : Int} (h : (decide (z ≤ ((least V rows.length : Nat) : Int)) || decide (((V + rows.length : Nat) : Int) < z)) = false) :
  ∃ i, z = ((V + i + 1 : Nat) : Int) ∧ ∃ (hi : i < rows.length), rows.length ≤ i + 64 ∧ atP V rows z = (rows[i], true) := by
 simp only [Bool.or_eq_false_iff, decide_eq_false_iff_not] at h;have hl : V ≤ least V rows.length := by unfold least; omega
 have hl2 : V + rows.length ≤ least V rows.length + 64 := by unfold least; omega
 refine ⟨z.toNat - V - 1, by omega, by omega, by omega, ?_⟩;unfold atP;rw [if_pos (by omega), ← List.getElem_eq_getD]
theorem sum_take_succ {α : Type} {f : α → Nat} {l : List α} {k : Nat} (h : k < l.length) : ((l.take (k + 1)).map f).sum = ((l.take k).map f).sum + f l[k] := by
 rw [List.take_succ_eq_append_getElem h, List.map_append, List.sum_append];simp only [List.map_cons, List.map_nil, List.sum_cons, List.sum_nil, Nat.add_zero]
theorem sum_take_le {α : Type} (f : α → Nat) (l : List α) (k : Nat) : ((l.take k).map f).sum ≤ (l.map f).sum := by
 have h : l.map f = (l.take k).map f ++ (l.drop k).map f := by rw [← List.map_append, List.take_append_drop]
 rw [h, List.sum_append];omega
end Go.Sx
end
section
namespace Go.Proofs.YtbhnolfcdcpbkaaGreatDoor.X
open Go Go.RowKit Go.Proofs Go.Sx Go.Joins Go.ChangeShapes Go.WideShapes Go.Deep
section
variable {H : Type} {enc : TypeId × Value → H} {P : Program} {w : World}
structure PrTys (P : Program) (tp : TypeId) : Prop where
 ex : ∃ (g0 g1 g2 g3 g4 g5 : Field) (es : TypeId),
  P.underlying tp = some (.struct #[g0, g1, g2, g3, g4, g5]) ∧ oneCellFields P #[g0, g1, g2, g3, g4, g5] = true ∧ P.cellsOf tp = 6 ∧
  P.underlying g0.type = some (.int .i64) ∧ P.underlying g1.type = some .string ∧ P.underlying g2.type = some .string ∧ P.underlying g3.type = some (.int .i64) ∧ P.underlying g4.type = some (.slice es) ∧ P.underlying g5.type = some (.slice es) ∧ P.underlying es = some .string ∧ P.cellsOf es = 1
structure ByTys (P : Program) (t tp : TypeId) : Prop where
 ex : ∃ f0 f1 : Field, P.underlying t = some (.struct #[f0, f1]) ∧ oneCellFields P #[f0, f1] = true ∧ P.cellsOf t = 2 ∧ P.underlying f0.type = some (.int .i64) ∧ P.underlying f1.type = some (.slice tp)
theorem many_mem {l : List Prim} {p : Prim} (h : p ∈ l) : p.many ≤ Sx.many l := by
 unfold Sx.many;have : p.many ≤ (l.map Prim.many).sum := by
  induction l with
  | nil => cases h
  | cons y l ih =>
   simp only [List.map_cons, List.sum_cons];rcases List.mem_cons.1 h with rfl | h
   ·omega
   ·have := ih h; omega
 omega
theorem sizes_mem' {l : List ByteArray} {s : ByteArray} (h : s ∈ l) : s.size ≤ sizes l := by
 unfold sizes
 induction l with
 | nil => cases h
 | cons x l ih =>
  simp only [List.map_cons, List.sum_cons];rcases List.mem_cons.1 h with rfl | h
  ·omega
  ·have := ih h; omega
theorem fit_many {p : Prim} (h : p.many ≤ 2000000) : p.fit := by
 unfold Prim.many at h;exact ⟨by omega, by omega, by omega, by omega, fun s hs => by have := sizes_mem' hs; omega, fun s hs => by have := sizes_mem' hs; omega⟩
theorem row_fit {l : List Prim} (h : Sx.many l ≤ 2000000) : l.length ≤ 2000000 ∧ ∀ x ∈ l, x.fit :=
 ⟨by unfold Sx.many at h; omega, fun x hx => fit_many (by have := many_mem hx; omega)⟩
end
end Go.Proofs.YtbhnolfcdcpbkaaGreatDoor.X
end
section
namespace Go.Sx
open Go Go.RowKit Go.MapKept
/-! Files, rising by name: what a tree's map holds. -/
def kl (a b : ByteArray) : Prop := ofB a < ofB b
instance (a b : ByteArray) : Decidable (kl a b) := inferInstanceAs (Decidable (ofB a < ofB b))
theorem ofB_inj {a b : ByteArray} (h : ofB a = ofB b) : a = b := by
 have : toB (ofB a) = toB (ofB b) := by rw [h]
 simpa [toB_ofB] using this
theorem kl_irrefl (a : ByteArray) : ¬ kl a a := List.lt_irrefl _
theorem kl_trans {a b c : ByteArray} (h : kl a b) (k : kl b c) : kl a c := List.lt_trans h k
theorem kl_ne {a b : ByteArray} (h : kl a b) : a ≠ b := fun e => kl_irrefl b (e ▸ h)
theorem kl_tri {a b : ByteArray} (h : ¬ kl a b) (k : ¬ kl b a) : a = b := ofB_inj (List.le_antisymm (List.not_lt.1 k) (List.not_lt.1 h))
theorem bytesLess_lt : ∀ x y : List UInt8, Op.bytesLess x y = decide (x < y)
 | [], [] => by simp [Op.bytesLess]
 | _ :: _, [] => by simp [Op.bytesLess]
 | [], _ :: _ => by simp [Op.bytesLess]
 | a :: x, b :: y => by
  simp only [Op.bytesLess, bytesLess_lt x y, List.cons_lt_cons_iff, Bool.decide_or, Bool.decide_and]
  congr 2
theorem toList_ofB (b : ByteArray) : b.toList = ofB b := ByteArray.toList_eq b
theorem less_kl (a b : ByteArray) : Op.bytesLess a.toList b.toList = decide (kl a b) := by
 rw [toList_ofB, toList_ofB, bytesLess_lt]; rfl
theorem more_kl (a b : ByteArray) : (!(Op.bytesLess a.toList b.toList || decide (a = b))) = decide (kl b a) := by
 rw [less_kl]
 by_cases h : kl a b
 ·have h2 : ¬ kl b a := fun k => kl_irrefl a (kl_trans h k);simp [h, h2]
 ·by_cases e : a = b
  ·subst e; simp [kl_irrefl]
  ·have : kl b a := Classical.byContradiction fun k => e (kl_tri h k);simp [h, e, this]
abbrev FileG (β : Type) := ByteArray × List β
abbrev File := FileG ByteArray
variable {β : Type}
def Sor (T : List (FileG β)) : Prop := T.Pairwise fun a b => kl a.1 b.1
def getT (T : List (FileG β)) (k : ByteArray) : Option (List β) := (T.find? fun x => decide (x.1 = k)).map (·.2)
def getL (T : List (FileG β)) (k : ByteArray) : List β := (getT T k).getD []
def hasT (T : List (FileG β)) (k : ByteArray) : Bool := (getT T k).isSome
def delT (T : List (FileG β)) (k : ByteArray) : List (FileG β) := T.filter fun x => decide (x.1 ≠ k)
def putT (T : List (FileG β)) (k : ByteArray) (l : List β) : List (FileG β) :=
 (delT T k).filter (fun x => decide (kl x.1 k)) ++ (k, l) :: (delT T k).filter (fun x => decide (kl k x.1))
theorem Sor.nil : Sor ([] : List (FileG β)) := List.Pairwise.nil
theorem Sor.keys {T : List (FileG β)} (h : Sor T) : (T.map (·.1)).Nodup := by
 unfold List.Nodup;rw [List.pairwise_map];exact h.imp fun h => kl_ne h
theorem Sor.key_eq {T : List (FileG β)} (h : Sor T) {x y : FileG β} (hx : x ∈ T) (hy : y ∈ T) (e : x.1 = y.1) : x = y := by
 induction T with
 | nil => cases hx
 | cons z T ih =>
  obtain ⟨h1, h2⟩ := List.pairwise_cons.1 h;rcases List.mem_cons.1 hx with rfl | hx'
  ·rcases List.mem_cons.1 hy with rfl | hy'
   ·rfl
   ·exact absurd e (kl_ne (h1 y hy'))
  ·rcases List.mem_cons.1 hy with rfl | hy'
   ·exact absurd e.symm (kl_ne (h1 x hx'))
   ·exact ih h2 hx' hy'
theorem mem_delT {T : List (FileG β)} {k : ByteArray} {x : FileG β} : x ∈ delT T k ↔ x ∈ T ∧ x.1 ≠ k := by simp [delT]
theorem mem_putT {T : List (FileG β)} {k : ByteArray} {l : List β} {x : FileG β} : x ∈ putT T k l ↔ x = (k, l) ∨ (x ∈ T ∧ x.1 ≠ k) := by
 simp only [putT, List.mem_append, List.mem_cons, List.mem_filter, mem_delT, decide_eq_true_eq];constructor
 ·rintro (h | h | h)
  ·exact .inr h.1
  ·exact .inl h
  ·exact .inr h.1
 ·rintro (h | h)
  ·exact .inr (.inl h)
  ·by_cases h1 : kl x.1 k
   ·exact .inl ⟨h, h1⟩
   ·exact .inr (.inr ⟨h, Classical.byContradiction fun h2 => h.2 (kl_tri h1 h2)⟩)
theorem Sor.del {T : List (FileG β)} (h : Sor T) (k : ByteArray) : Sor (delT T k) := List.Pairwise.filter _ h
theorem Sor.put {T : List (FileG β)} (h : Sor T) (k : ByteArray) (l : List β) : Sor (putT T k l) := by
 refine List.pairwise_append.2 ⟨(h.del k).filter _, List.pairwise_cons.2 ⟨fun x hx => ?_, (h.del k).filter _⟩, fun x hx y hy => ?_⟩
 ·simpa using (List.mem_filter.1 hx).2
 ·have h1 : kl x.1 k := by simpa using (List.mem_filter.1 hx).2
  rcases List.mem_cons.1 hy with rfl | hy
  ·exact h1
  ·exact kl_trans h1 (by simpa using (List.mem_filter.1 hy).2)
theorem getT_some {T : List (FileG β)} (h : Sor T) {k : ByteArray} {l : List β} : getT T k = some l ↔ (k, l) ∈ T := by
 unfold getT;constructor
 ·intro e;obtain ⟨x, hx, rfl⟩ := Option.map_eq_some_iff.1 e;have h1 := List.mem_of_find?_eq_some hx;have h2 : x.1 = k := by simpa using List.find?_some hx
  subst h2; exact h1
 ·intro hm;cases e : T.find? (fun x => decide (x.1 = k)) with
  | none =>
   have := List.find?_eq_none.1 e (k, l) hm;simp at this
  | some x =>
   have h1 := List.mem_of_find?_eq_some e;have h2 : x.1 = k := by simpa using List.find?_some e
   rw [h.key_eq h1 hm h2]; rfl
theorem getT_none {T : List (FileG β)} {k : ByteArray} : getT T k = none ↔ ∀ x ∈ T, x.1 ≠ k := by
 simp [getT]
theorem Sor.nodup {T : List (FileG β)} (hT : Sor T) : T.Nodup := by
 unfold List.Nodup;exact List.Pairwise.imp (R := fun a b : FileG β => kl a.1 b.1) (S := fun a b => a ≠ b) (fun h e => kl_ne h (congrArg Prod.fst e)) hT
theorem sor_ext {T U : List (FileG β)} (hT : Sor T) (hU : Sor U) (h : ∀ x, x ∈ T ↔ x ∈ U) : T = U := by
 have nT := hT.nodup;have nU := hU.nodup;exact List.Perm.eq_of_pairwise (le := fun a b : FileG β => kl a.1 b.1) (fun a b _ _ h1 h2 => absurd (kl_trans h1 h2) (kl_irrefl _)) hT hU ((List.perm_ext_iff_of_nodup nT nU).2 h)
theorem sortB_keys {T : List (FileG β)} (h : Sor T) {l : List ByteArray} (hp : l.Perm (T.map (·.1))) : sortB l = T.map (·.1) := by
 unfold sortB;have e : (l.map ofB).mergeSort (fun x y => decide (x ≤ y)) = (T.map (·.1)).map ofB := by
  refine List.Perm.eq_of_pairwise (le := fun a b : List UInt8 => decide (a ≤ b) = true) (fun a b _ _ h1 h2 => List.le_antisymm (by simpa using h1) (by simpa using h2)) (List.pairwise_mergeSort ?_ ?_ _) ?_ ?_
  ·intro a b c h1 h2;simp only [decide_eq_true_eq] at *;exact List.le_trans h1 h2
  ·intro a b;simp only [Bool.or_eq_true, decide_eq_true_eq];exact List.le_total a b
  ·rw [List.map_map, List.pairwise_map];exact h.imp fun {a b} hab => by
    simp only [decide_eq_true_eq];exact List.le_of_lt hab
  ·exact (List.mergeSort_perm _ _).trans (hp.map ofB)
 rw [e];simp [Function.comp_def, toB_ofB]
end Go.Sx
end
section
namespace Go.Sx
open Go Go.RowKit Go.MapKept
variable {β : Type} [Rp β]
/-! A map of files, which is somebody's own. -/
structure EntOk (M : Nat → Prop) (w : World) (e : MapEntry) (x : FileG β) : Prop where
 key : e.key = .string x.1
 val : ∃ y : Option Addr × Nat, e.val = .slice y.1 x.2.length y.2 ∧ (slA y.1 x.2).p M w ∧ (nilA y).p M w
structure MapIs (M : Nat → Prop) (w : World) (T : List (FileG β)) (es : Array MapEntry) (clock : Nat) : Prop where
 stamped : Stamped es clock
 so : Sor T
 ent : ∀ e ∈ es.toList, ∃ x ∈ T, EntOk M w e x
 cov : ∀ x ∈ T, ∃ e ∈ es.toList, e.key = .string x.1
theorem EntOk.st {M M' : Nat → Prop} {w w' : World} {e : MapEntry} {x : FileG β} (h : EntOk M w e x) (hb : ∀ b, b < w.heap.size → ¬ M b → w'.heap[b]? = w.heap[b]?) (hm : ∀ b, b < w.heap.size → M' b → M b) (hs : w.heap.size ≤ w'.heap.size) : EntOk M' w' e x := by
 obtain ⟨y, h1, h2, h3⟩ := h.val;exact ⟨h.key, y, h1, (slA y.1 x.2).st _ _ _ _ h2 hb hm hs, (nilA y).st _ _ _ _ h3 hb hm hs⟩
theorem MapIs.st {M M' : Nat → Prop} {w w' : World} {T : List (FileG β)} {es : Array MapEntry} {clock : Nat} (h : MapIs M w T es clock) (hb : ∀ b, b < w.heap.size → ¬ M b → w'.heap[b]? = w.heap[b]?) (hm : ∀ b, b < w.heap.size → M' b → M b) (hs : w.heap.size ≤ w'.heap.size) : MapIs M' w' T es clock :=
 ⟨h.stamped, h.so, fun e he => (h.ent e he).imp fun x hx => ⟨hx.1, hx.2.st hb hm hs⟩, h.cov⟩
section
variable {M : Nat → Prop} {w : World} {T : List (FileG β)} {es es' : Array MapEntry} {clock clock' : Nat} {k : ByteArray} {l : List β}
theorem MapIs.isKey (h : MapIs M w T es clock) : ∀ e ∈ es.toList, IsKey .string e.key := fun e he => by
 obtain ⟨x, _, hx⟩ := h.ent e he;rw [hx.key]; trivial
theorem key_inj {a b : ByteArray} (h : Value.string a = Value.string b) : a = b := by injection h
theorem MapIs.nil : MapIs M w ([] : List (FileG β)) #[] 0 := ⟨stamped_empty 0, Sor.nil, fun e he => by simp at he, fun x hx => by simp at hx⟩
theorem MapIs.size (h : MapIs M w T es clock) : es.size = T.length := by
 have h1 : (es.toList.map (·.key)).Perm (T.map fun x => Value.string x.1) := by
  refine (List.perm_ext_iff_of_nodup h.stamped.2.2 ?_).2 fun v => ?_
  ·have := h.so.keys;unfold List.Nodup at this ⊢;rw [List.pairwise_map] at this ⊢;exact this.imp fun {a b} hab e => hab (key_inj e)
  ·simp only [List.mem_map];constructor
   ·rintro ⟨e, he, rfl⟩;obtain ⟨x, hx, hk⟩ := h.ent e he;exact ⟨x, hx, hk.key.symm⟩
   ·rintro ⟨x, hx, rfl⟩;exact h.cov x hx
 have := h1.length_eq
 simpa using this
theorem MapIs.put (h : MapIs M w T es clock) (hst : Stamped es' clock') (hin : ∀ e ∈ es'.toList, (e ∈ es.toList ∧ e.key ≠ .string k) ∨ EntOk M w e (k, l)) (hk : ∃ e ∈ es'.toList, e.key = .string k)
  (hold : ∀ e ∈ es.toList, e.key ≠ .string k → e ∈ es'.toList) : MapIs M w (putT T k l) es' clock' where
 stamped := hst
 so := h.so.put k l
 ent := fun e he => by
  rcases hin e he with ⟨h1, h2⟩ | h1
  ·obtain ⟨x, hx, hx2⟩ := h.ent e h1;exact ⟨x, mem_putT.2 (.inr ⟨hx, fun e' => h2 (by rw [hx2.key, e'])⟩), hx2⟩
  ·exact ⟨(k, l), mem_putT.2 (.inl rfl), h1⟩
 cov := fun x hx => by
  rcases mem_putT.1 hx with rfl | ⟨h1, h2⟩
  ·exact hk
  ·obtain ⟨e, he, hke⟩ := h.cov x h1;exact ⟨e, hold e he (by rw [hke]; exact fun e' => h2 (key_inj e')), hke⟩
theorem MapIs.del (h : MapIs M w T es clock) (hst : Stamped es' clock') (hin : ∀ e ∈ es'.toList, e ∈ es.toList ∧ e.key ≠ .string k) (hold : ∀ e ∈ es.toList, e.key ≠ .string k → e ∈ es'.toList) : MapIs M w (delT T k) es' clock' where
 stamped := hst
 so := h.so.del k
 ent := fun e he => by
  obtain ⟨h1, h2⟩ := hin e he;obtain ⟨x, hx, hx2⟩ := h.ent e h1;exact ⟨x, mem_delT.2 ⟨hx, fun e' => h2 (by rw [hx2.key, e'])⟩, hx2⟩
 cov := fun x hx => by
  obtain ⟨h1, h2⟩ := mem_delT.1 hx;obtain ⟨e, he, hke⟩ := h.cov x h1;exact ⟨e, hold e he (by rw [hke]; exact fun e' => h2 (key_inj e')), hke⟩
theorem MapIs.find (h : MapIs M w T es clock) (k : ByteArray) : (Instr.findNow .string (.string k) es.toList 0 = some none ∧ getT T k = none ∧ ∀ e ∈ es.toList, e.key ≠ .string k) ∨
  ∃ j e l, Instr.findNow .string (.string k) es.toList 0 = some (some (j, e.val)) ∧ es.toList[j]? = some e ∧ EntOk M w e (k, l) ∧ getT T k = some l := by
 rcases findNow_spec (d := .string) (k := .string k) trivial es.toList 0 h.isKey with ⟨h1, h2⟩ | ⟨j, e, h1, h2, h3⟩
 ·refine .inl ⟨h1, getT_none.2 fun x hx e' => ?_, h2⟩;obtain ⟨e, he, hk⟩ := h.cov x hx;exact h2 e he (by rw [hk, e'])
 ·obtain ⟨x, hx, hx2⟩ := h.ent e (List.mem_of_getElem? h2);have : x.1 = k := key_inj (hx2.key.symm.trans h3);subst this;exact .inr ⟨j, e, x.2, by simpa using h1, h2, hx2, (getT_some h.so).2 hx⟩
theorem nodup_at {β : Type} {f : MapEntry → β} {l : List MapEntry} (h : (l.map f).Nodup) {i j : Nat} {a b : MapEntry} (ha : l[i]? = some a) (hb : l[j]? = some b) (e : f a = f b) : i = j := by
 obtain ⟨hi, rfl⟩ := List.getElem?_eq_some_iff.1 ha;obtain ⟨hj, rfl⟩ := List.getElem?_eq_some_iff.1 hb;have hp := List.pairwise_iff_getElem.1 h;rcases Nat.lt_trichotomy i j with hlt | rfl | hlt
 ·exact absurd (show (l.map f)[i]'(by simpa using hi) = (l.map f)[j]'(by simpa using hj) by rw [List.getElem_map, List.getElem_map]; exact e) (hp i j _ _ hlt)
 ·rfl
 ·exact absurd (show (l.map f)[j]'(by simpa using hj) = (l.map f)[i]'(by simpa using hi) by rw [List.getElem_map, List.getElem_map]; exact e.symm) (hp j i _ _ hlt)
theorem mem_modify {es : Array MapEntry} {i : Nat} {f : MapEntry → MapEntry} {e : MapEntry} (h : e ∈ (es.modify i f).toList) : ∃ j e0, es.toList[j]? = some e0 ∧ ((j = i ∧ e = f e0) ∨ (j ≠ i ∧ e = e0)) := by
 obtain ⟨j, hj⟩ := List.mem_iff_getElem?.1 h;rw [Array.getElem?_toList, Array.getElem?_modify] at hj
 split at hj
 ·rename_i hij
  obtain ⟨e0, h1, h2⟩ := Option.map_eq_some_iff.1 hj;exact ⟨j, e0, by simpa using h1, .inl ⟨hij.symm, h2.symm⟩⟩
 ·rename_i hij
  exact ⟨j, e, by simpa using hj, .inr ⟨fun e' => hij e'.symm, rfl⟩⟩
theorem of_modify {es : Array MapEntry} {i j : Nat} {f : MapEntry → MapEntry} {e : MapEntry} (h : es.toList[j]? = some e) : (if i = j then f e else e) ∈ (es.modify i f).toList := by
 refine List.mem_iff_getElem?.2 ⟨j, ?_⟩;rw [Array.getElem?_toList, Array.getElem?_modify];have h' : es[j]? = some e := by simpa using h
 rw [h']
 split <;> rfl
theorem mem_erase {es : Array MapEntry} {i : Nat} {e : MapEntry} (hi : i < es.size) : e ∈ (es.eraseIdxIfInBounds i).toList ↔ ∃ j, j ≠ i ∧ es.toList[j]? = some e := by
 unfold Array.eraseIdxIfInBounds;rw [dif_pos hi, Array.toList_eraseIdx];rw [List.mem_eraseIdx_iff_getElem?]
end
def tr (b : Nat) (T : List (FileG β)) : Xsn where
 p F M w := (∀ x, F x ↔ x = b) ∧ ∃ es clock, w.heap[b]? = some (.map es clock) ∧ MapIs M w T es clock
 st := by
  rintro F M M' w w' ⟨h1, es, clock, h2, h3⟩ hb hm hs;have hlt : b < w.heap.size := (Array.getElem?_eq_some_iff.1 h2).1;exact ⟨h1, es, clock, by rw [hb b hlt (.inl ((h1 b).2 rfl)), h2], h3.st (fun b hlt hM => hb b hlt (.inr hM)) hm hs⟩
def mit (b r : Nat) (T K : List (FileG β)) : Xsn where
 p F M w := b ≠ r ∧ (∀ x, F x ↔ x = b ∨ x = r) ∧ ∃ es clock since seen c0, w.heap[b]? = some (.map es clock) ∧ w.heap[r]? = some (.mapIter (some b) since seen c0) ∧ MapIs M w T es clock ∧
  (∀ e ∈ es.toList, e.born < since) ∧ since ≤ c0 ∧ since ≤ clock ∧ K.Nodup ∧ (∀ x ∈ K, x ∈ T) ∧ (∀ e ∈ es.toList, (seen.contains e.born = true ↔ ∃ x ∈ K, e.key = .string x.1)) ∧
  ∀ x, K.getLast? = some x → c0 = clock ∧ ∃ e ∈ es.toList, e.key = .string x.1 ∧ seen.back? = some e.born
 st := by
  rintro F M M' w w' ⟨h0, h1, es, clock, since, seen, c0, h2, h3, h4, h5⟩ hb hm hs;have hlt : b < w.heap.size := (Array.getElem?_eq_some_iff.1 h2).1;have hlt2 : r < w.heap.size := (Array.getElem?_eq_some_iff.1 h3).1;exact ⟨h0, h1, es, clock, since, seen, c0, by rw [hb b hlt (.inl ((h1 b).2 (.inl rfl))), h2], by rw [hb r hlt2 (.inl ((h1 r).2 (.inr rfl))), h3], h4.st (fun b hlt hM => hb b hlt (.inr hM)) hm hs, h5⟩
section
variable {M0 F0 : Nat → Prop} {w0 w w' : World} {Ξ : List Xsn} {Γ : List Asn} {Fs : List (Nat → Prop)}
theorem Hp.one_of {x : Xsn} (h : Hp M0 F0 w0 [x] Γ Fs w) : ∃ F, Fs = [F] ∧ x.p F (fun b => M0 b ∨ own [F] b) w := by
 match Fs, h with
 | [F], h => exact ⟨F, rfl, h.ex.1⟩
 | _ :: _ :: _, h => exact h.ex.2.elim
 | [], h => exact h.ex.elim
theorem Hp.oneG {F : Nat → Prop} {x : Xsn} (h : Hp M0 (own [F]) w [x] Γ [F] w) {F' : Nat → Prop} {x' : Xsn} {Γ' : List Asn} (hu : Upd F w w') (hF : ∀ b, F' b → F b ∨ w.heap.size ≤ b) (hlt : ∀ b, F' b → b < w'.heap.size) (hx : x'.p F' (fun b => M0 b ∨ own [F'] b) w')
  (hg : ∀ p ∈ Γ', p.p (fun b => M0 b ∨ own [F'] b) w') : Hp M0 (own [F]) w [x'] Γ' [F'] w' :=
 { h.one hu hF hlt hx with ga := hg }
theorem Hp.conv1 {x x' : Xsn} (h : Hp M0 F0 w0 (x :: Ξ) Γ Fs w) (hc : ∀ F, x.p F (fun b => M0 b ∨ own Fs b) w → ∃ F', (∀ b, F' b → F b) ∧ x'.p F' (fun b => M0 b ∨ own Fs b) w) : ∃ Fs', Hp M0 F0 w0 (x' :: Ξ) Γ Fs' w := by
 cases Fs with
 | nil => exact h.ex.elim
 | cons F Fs2 =>
  obtain ⟨F', h1, h2⟩ := hc F h.ex.1;have hsub : ∀ b, own (F' :: Fs2) b → own (F :: Fs2) b := fun b hb => own_cons.2 ((own_cons.1 hb).imp (h1 b) id);have hM : ∀ b, b < w.heap.size → (M0 b ∨ own (F' :: Fs2) b) → (M0 b ∨ own (F :: Fs2) b) := fun b _ hb => hb.imp id (hsub b);have hd := List.pairwise_cons.1 h.dis;exact ⟨F' :: Fs2, ⟨x'.st _ _ _ _ _ h2 (fun _ _ _ => rfl) hM (Nat.le_refl _), h.ex.2.st (fun _ _ _ => rfl) hM (Nat.le_refl _)⟩, List.pairwise_cons.2 ⟨fun G hG b hb => hd.1 G hG b (h1 b hb), hd.2⟩,
   fun b hb => h.dis0 b (hsub b hb), fun b hb => h.lt b (hsub b hb), fun b hb => h.old b (hsub b hb), fun p hp => p.st _ _ _ _ (h.ga p hp) (fun _ _ _ => rfl) hM (Nat.le_refl _), h.up, h.m0, h.f0⟩
theorem Hp.conv {x x' : Xsn} (h : Hp M0 F0 w0 (x :: Ξ) Γ Fs w) (hc : ∀ F M w, x.p F M w → ∃ F', (∀ b, F' b → F b) ∧ x'.p F' M w) : ∃ Fs', Hp M0 F0 w0 (x' :: Ξ) Γ Fs' w := h.conv1 fun F => hc F _ w
end
section
variable {ro : Option Nat} {P : Program} {M0 F0 : Nat → Prop} {w0 : World} {n : Nm} {σ : List (Nat × Value)} {Ξ : List Xsn} {Γ : List Asn} {d : Nat} {ty : TypeId} {pos : String} {af : Array Edge}
variable {ops : Array Oper} {Q : Exit → Act → World → Prop} {S S' : Act → World → Prop}
theorem conv {x x' : Xsn} {i : Nat} {Ξ' : List Xsn} (hs : takeAll [i] Ξ = some ([x], Ξ')) (hc : ∀ F M w, x.p F M w → ∃ F', (∀ b, F' b → F b) ∧ x'.p F' M w) : ∀ a w, St M0 F0 w0 n σ Ξ Γ a w → St M0 F0 w0 n σ (x' :: Ξ') Γ a w := by
 rintro a w ⟨hsl, Fs, hh⟩;obtain ⟨Gs, Hs, hp, h1, h2⟩ := hh.ex.takeAll hs;have hh' : Hp M0 F0 w0 (x :: Ξ') Γ (Gs ++ Hs) w := hh.re (fun b => (own_perm hp b).symm) (perm_pairwise hp hh.dis) (h1.append h2) hh.ga;exact ⟨hsl, hh'.conv hc⟩
theorem mit_tr {b r : Nat} {T K : List (FileG β)} : ∀ F M w, (mit b r T K).p F M w → ∃ F', (∀ b, F' b → F b) ∧ (tr b T).p F' M w := by
 rintro F M w ⟨h0, h1, es, clock, since, seen, c0, h2, h3, h4, h5⟩;exact ⟨fun x => x = b, fun x hx => (h1 x).2 (.inl hx), fun x => Iff.rfl, es, clock, h2, h4⟩
theorem o_locs {o : Op} {run : World → Result Unit} {Ξi Ξ' : List Xsn} {Γi : List Asn} {X : Type} {Ξo : X → List Xsn} {Γo : X → List Asn} {is : List Nat}
  (hc : ∀ M0 Fs w, Hp M0 (own Fs) w Ξi Γi Fs w → ∃ x Fs' w', run w = .ok () w' ∧ Hp M0 (own Fs) w (Ξo x) (Γo x) Fs' w') (hr : ∀ a, Slots n σ a → ∀ w w', run w = .ok () w' → (execOp a.eval ⟨none, o, ty, pos, af, none⟩).run P w = .ok .skip w') (hs : takeAll is Ξ = some (Ξi, Ξ')) (hg : Sub Γi Γ) :
  OpR P ⟨none, o, ty, pos, af, none⟩ (St M0 F0 w0 n σ Ξ Γ) (fun a w => ∃ x, St M0 F0 w0 n σ (Ξo x ++ Ξ') (Γo x ++ Γ) a w) :=
 OpR.of_skip rfl fun a w ⟨hsl, Fs, hh⟩ => by
  obtain ⟨Gs, Hs, hp, hin, hr'⟩ := hh.select hs hg.mem;obtain ⟨x, Fs', w', h1, h2⟩ := hc _ Gs w hin;exact ⟨w', hr a hsl w _ h1, x, hsl, _, hh.back hp hr' h2⟩
/-! the operations -/
theorem o_mmk {t : TypeId} (hd : Nat.blt d n.n = true) : OpR P ⟨some d, .makeMap t none, ty, pos, af, none⟩ (St M0 F0 w0 n σ Ξ Γ) (fun a w => ∃ b, St M0 F0 w0 n ((d, .map (some b)) :: σ) (tr b ([] : List (FileG β)) :: Ξ) Γ a w) :=
 OpR.of_run rfl fun a w ⟨hs, Fs, hh⟩ => by
  obtain ⟨Fs', h1⟩ := hh.allocO (.map #[] 0);obtain ⟨Fs2, h2⟩ := h1.conv (x' := tr w.heap.size ([] : List (FileG β))) (fun F M w h => ⟨F, fun _ h => h, h.1, #[], 0, h.2, MapIs.nil⟩)
  exact ⟨_, _, by simp [execOp, Instr.makeMap, newObj, Sem.run, Result.andThen], w.heap.size, hs.put hd, Fs2, h2⟩
theorem Hp.tr {i b : Nat} {T : List (FileG β)} {w : World} {Fs} (h : Hp M0 F0 w0 Ξ Γ Fs w) (hi : At (tr b T) i Ξ) : ∃ es clock, w.heap[b]? = some (.map es clock) ∧ MapIs (fun b => M0 b ∨ own Fs b) w T es clock := by
 obtain ⟨F, _, hp⟩ := h.ex.at hi.get;exact hp.2
theorem run_look {M : Nat → Prop} {w : World} {T : List (FileG β)} {es : Array MapEntry} {clock b : Nat} {t kt et : TypeId} (ht : P.underlying t = some (.map kt et)) (hk : P.underlying kt = some .string) (hz : ∀ w, (zeroValue et).run P w = .ok (.slice none 0 0) w)
  (hb : w.heap[b]? = some (.map es clock)) (h : MapIs M w T es clock) (k : ByteArray) (ok : Bool) :
  ∃ y : Option Addr × Nat, (Instr.lookup t (.map (some b)) (.string k) ok).run P w = .ok (if ok then .tuple #[.slice y.1 (getL T k).length y.2, .bool (hasT T k)] else .slice y.1 (getL T k).length y.2) w ∧ (slA y.1 (getL T k)).p M w ∧ (nilA y).p M w := by
 have hkey : IsKey .string (.string k) := trivial;rcases h.find k with ⟨h1, h2, _⟩ | ⟨j, e, l, h1, h2, h3, h4⟩
 ·refine ⟨(none, 0), ?_, ?_, fun _ => rfl⟩
  ·simp only [Instr.lookup, Sem.run_bind, run_underlying ht, Result.andThen, MapKept.run_getObj_map hb, run_checkKey hk hkey, run_findKey hk h1, hz, Sem.run_pure, Sem.run_map];simp [getL, hasT, h2]
  ·intro j x hj;simp [getL, h2] at hj
 ·obtain ⟨y, hy, hy2, hy3⟩ := h3.val;refine ⟨y, ?_, ?_, hy3⟩
  ·simp only [Instr.lookup, Sem.run_bind, run_underlying ht, Result.andThen, MapKept.run_getObj_map hb, run_checkKey hk hkey, run_findKey hk h1, Sem.run_pure];simp [getL, hasT, h4, hy]
  ·simpa [getL, h4] using hy2
theorem o_look {m k : Operand} {t kt et : TypeId} {b i : Nat} {kk : ByteArray} {T : List (FileG β)} (ht : P.underlying t = some (.map kt et)) (hk : P.underlying kt = some .string) (hz : ∀ w, (zeroValue et).run P w = .ok (.slice none 0 0) w)
  (hm : ev σ m = some (.map (some b))) (hx : ev σ k = some (.string kk)) (hi : At (tr b T) i Ξ) (hd : Nat.blt d n.n = true) :
  OpR P ⟨some d, .lookup t m k true, ty, pos, af, none⟩ (St M0 F0 w0 n σ Ξ Γ) (fun a w => ∃ y : Option Addr × Nat, St M0 F0 w0 n ((d, .tuple [.slice y.1 (getL T kk).length y.2, .bool (hasT T kk)].toArray) :: σ) Ξ (slA y.1 (getL T kk) :: nilA y :: Γ) a w) :=
 OpR.of_run rfl fun a w ⟨hs, Fs, hh⟩ => by
  obtain ⟨es, clock, hb, h⟩ := hh.tr hi;obtain ⟨y, h1, h2, h3⟩ := run_look ht hk hz hb h kk true;refine ⟨_, w, by simp only [execOp, hs.ev hm, hs.ev hx, Sem.run_bind, h1, Result.andThen]; rfl, y, hs.put hd, Fs, { hh with ga := fun p hp => ?_ }⟩;rcases List.mem_cons.1 hp with rfl | hp
  ·exact h2
  ·rcases List.mem_cons.1 hp with rfl | hp
   ·exact h3
   ·exact hh.ga p hp
theorem o_look1 {m k : Operand} {t kt et : TypeId} {b i : Nat} {kk : ByteArray} {T : List (FileG β)} (ht : P.underlying t = some (.map kt et)) (hk : P.underlying kt = some .string) (hz : ∀ w, (zeroValue et).run P w = .ok (.slice none 0 0) w)
  (hm : ev σ m = some (.map (some b))) (hx : ev σ k = some (.string kk)) (hi : At (tr b T) i Ξ) (hd : Nat.blt d n.n = true) :
  OpR P ⟨some d, .lookup t m k false, ty, pos, af, none⟩ (St M0 F0 w0 n σ Ξ Γ) (fun a w => ∃ y : Option Addr × Nat, St M0 F0 w0 n ((d, .slice y.1 (getL T kk).length y.2) :: σ) Ξ (slA y.1 (getL T kk) :: nilA y :: Γ) a w) :=
 OpR.of_run rfl fun a w ⟨hs, Fs, hh⟩ => by
  obtain ⟨es, clock, hb, h⟩ := hh.tr hi;obtain ⟨y, h1, h2, h3⟩ := run_look ht hk hz hb h kk false;refine ⟨_, w, by simp only [execOp, hs.ev hm, hs.ev hx, Sem.run_bind, h1, Result.andThen]; rfl, y, hs.put hd, Fs, { hh with ga := fun p hp => ?_ }⟩;rcases List.mem_cons.1 hp with rfl | hp
  ·exact h2
  ·rcases List.mem_cons.1 hp with rfl | hp
   ·exact h3
   ·exact hh.ga p hp
theorem o_lenm {m : Operand} {t kt et : TypeId} {b i : Nat} {T : List (FileG β)} (ht : P.underlying t = some (.map kt et)) (hm : ev σ m = some (.map (some b))) (hi : At (tr b T) i Ξ) (hd : Nat.blt d n.n = true) :
  OpR P ⟨some d, .call ⟨.builtin .len, #[m], #[t]⟩, ty, pos, af, none⟩ (St M0 F0 w0 n σ Ξ Γ) (St M0 F0 w0 n ((d, .int .i64 (T.length : Int)) :: σ) Ξ Γ) :=
 OpR.of_run rfl fun a w ⟨hs, Fs, hh⟩ => by
  obtain ⟨es, clock, hb, h⟩ := hh.tr hi;refine ⟨_, w, ?_, hs.put hd, Fs, hh⟩;simp [execOp, resolve, invoke, builtin, hs.ev hm, Builtin.len_, run_underlying ht, MapKept.run_getObj_map hb, goInt, h.size, Result.andThen]
theorem tr_set {M0 : Nat → Prop} {Fs : List (Nat → Prop)} {w : World} {b : Nat} {T T' : List (FileG β)} {Γ : List Asn} (h : Hp M0 (own Fs) w [tr b T] Γ Fs w) {es' : Array MapEntry} {clock' : Nat} (hn : ∀ es clock, w.heap[b]? = some (.map es clock) → MapIs (fun b => M0 b ∨ own Fs b) w T es clock → MapIs (fun b => M0 b ∨ own Fs b) w T' es' clock') :
  Hp M0 (own Fs) w [tr b T'] [] Fs (ChangeMaps.setBlock w b (.map es' clock')) := by
 obtain ⟨F, rfl, hF, es, clock, hb, hm⟩ := h.one_of;have hm' := hn es clock hb hm;have hlt : b < w.heap.size := (Array.getElem?_eq_some_iff.1 hb).1;have hsame := heap_set (o' := .map es' clock') hb;have ho : ∀ x, own [F] x ↔ F x := fun x => by simp [own]
 refine h.oneG ⟨rfl, rfl, rfl, by simp [ChangeMaps.setBlock], fun x hx hne => hsame.2 x (fun e => hne ((hF x).2 e))⟩ (fun b h => .inl h) (fun x hx => by simp only [ChangeMaps.setBlock, Array.size_setIfInBounds]; exact (hF x).1 hx ▸ hlt) ⟨hF, es', clock', hsame.1, ?_⟩ (fun p hp => by cases hp);exact hm'.st (fun x hx hM => hsame.2 x (fun e => hM (.inr ((ho x).2 ((hF x).2 e))))) (fun _ _ h => h) (by simp [ChangeMaps.setBlock])
theorem loc_mupd {M0 : Nat → Prop} {Fs : List (Nat → Prop)} {w : World} {t kt et : TypeId} {b : Nat} {T : List (FileG β)} (ht : P.underlying t = some (.map kt et)) (hk : P.underlying kt = some .string) (kk : ByteArray) (A : Option Addr) (c : Nat) (l : List β)
  (hh : Hp M0 (own Fs) w [tr b T] [slA A l, nilA (A, c)] Fs w) : ∃ (x : Unit) (Fs' : List (Nat → Prop)) (w' : World), (Instr.mapUpdate t (.map (some b)) (.string kk) (.slice A l.length c)).run P w = .ok () w' ∧ Hp M0 (own Fs) w [tr b (putT T kk l)] [] Fs' w' := by
 obtain ⟨F, hFs, hF, es, clock, hb, hm⟩ := hh.one_of;have hkey : IsKey .string (.string kk) := trivial;have hnew : ∀ born, EntOk (fun b => M0 b ∨ own Fs b) w { key := .string kk, val := .slice A l.length c, born := born } (kk, l) := fun born => ⟨rfl, (A, c), rfl, hh.ga _ (by simp), hh.ga _ (by simp)⟩;rw [← hFs] at hm;rcases hm.find kk with ⟨h1, h2, h3⟩ | ⟨j, e, l0, h1, h2, h3, h4⟩
 ·refine ⟨(), Fs, ChangeMaps.setBlock w b (.map (es.push { key := .string kk, val := .slice A l.length c, born := clock }) (clock + 1)), ?_, tr_set hh fun es1 clock1 hb1 hm1 => ?_⟩
  ·simp only [Instr.mapUpdate, Sem.run_bind, run_underlying ht, Result.andThen, MapKept.run_getObj_map hb, run_checkKey hk hkey, run_findKey hk h1, run_setObj_map _ hb]
   rfl
  ·rw [hb] at hb1; cases hb1;refine hm.put (stamped_push hm.stamped h3) (fun e he => ?_) ⟨_, by simp; exact .inr rfl, rfl⟩ (fun e he _ => by simp at he ⊢; exact .inl he);simp only [Array.toList_push, List.mem_append, List.mem_singleton] at he;rcases he with he | rfl
   ·exact .inl ⟨he, h3 e he⟩
   ·exact .inr (hnew _)
 ·have hej : es[j]? = some e := by simpa using h2
  refine ⟨(), Fs, ChangeMaps.setBlock w b (.map (es.modify j fun e => { e with key := .string kk, val := .slice A l.length c }) clock), ?_, tr_set hh fun es1 clock1 hb1 hm1 => ?_⟩
  ·simp only [Instr.mapUpdate, Sem.run_bind, run_underlying ht, Result.andThen, MapKept.run_getObj_map hb, run_checkKey hk hkey, run_findKey hk h1, hej, Option.map_some, Option.getD_some, h3.key, run_keyThatStays hkey, run_setObj_map _ hb]
   rfl
  ·rw [hb] at hb1; cases hb1;have hst : Stamped (es.modify j fun e => { e with key := .string kk, val := .slice A l.length c }) clock := by
    refine stamped_modify hm.stamped j _ (fun _ _ => rfl) (fun e' he' hj => ?_);rw [hej] at hj; cases hj;exact h3.key.symm
   refine hm.put hst (fun e' he => ?_) ⟨{ e with key := .string kk, val := .slice A l.length c }, ?_, rfl⟩ (fun e' he hne => ?_)
   ·obtain ⟨i, e0, hi, ⟨rfl, rfl⟩ | ⟨hne, rfl⟩⟩ := mem_modify he
    ·exact .inr (hnew _)
    ·exact .inl ⟨List.mem_of_getElem? hi, fun ek => hne (nodup_at hm.stamped.2.2 hi h2 (ek.trans h3.key.symm))⟩
   ·have := of_modify (i := j) (f := fun e => { e with key := .string kk, val := .slice A l.length c }) h2
    rwa [if_pos rfl] at this
   ·obtain ⟨i, hi⟩ := List.mem_iff_getElem?.1 he;have := of_modify (i := j) (f := fun e => { e with key := .string kk, val := .slice A l.length c }) hi
    rwa [if_neg (fun e' => by subst e'; rw [hi] at h2; cases h2; exact hne h3.key)] at this
theorem o_mupd {m k v : Operand} {t kt et : TypeId} {b i : Nat} {kk : ByteArray} {T : List (FileG β)} {A : Option Addr} {c : Nat} {l : List β} {Ξ' : List Xsn} (ht : P.underlying t = some (.map kt et)) (hk : P.underlying kt = some .string)
  (hm : ev σ m = some (.map (some b))) (hx : ev σ k = some (.string kk)) (hv : ev σ v = some (.slice A l.length c)) (hs : takeAll [i] Ξ = some ([tr b T], Ξ')) (hg : Sub [slA A l, nilA (A, c)] Γ) :
  OpR P ⟨none, .mapUpdate t m k v, ty, pos, af, none⟩ (St M0 F0 w0 n σ Ξ Γ) (St M0 F0 w0 n σ (tr b (putT T kk l) :: Ξ') Γ) :=
 (o_locs (X := Unit) (Ξo := fun _ => [tr b (putT T kk l)]) (Γo := fun _ => []) (fun _ _ _ h => loc_mupd ht hk kk A c l h) (fun a hs w w' h => by simp only [execOp, hs.ev hm, hs.ev hx, hs.ev hv, Sem.run_bind, h, Result.andThen]; rfl) hs hg).mono fun a w ⟨_, h⟩ => h
theorem loc_mdel {M0 : Nat → Prop} {Fs : List (Nat → Prop)} {w : World} {t t2 kt et ty : TypeId} {b : Nat} {T : List (FileG β)} (ht : P.underlying t = some (.map kt et)) (hk : P.underlying kt = some .string) (kk : ByteArray)
  (hh : Hp M0 (own Fs) w [tr b T] [] Fs w) : ∃ (x : Unit) (Fs' : List (Nat → Prop)) (w' : World), (Builtin.delete_ #[t, t2] ty #[.map (some b), .string kk]).run P w = .ok (.tuple #[]) w' ∧ Hp M0 (own Fs) w [tr b (delT T kk)] [] Fs' w' := by
 obtain ⟨F, hFs, hF, es, clock, hb, hm⟩ := hh.one_of;have hkey : IsKey .string (.string kk) := trivial;rw [← hFs] at hm;rcases hm.find kk with ⟨h1, h2, h3⟩ | ⟨j, e, l0, h1, h2, h3, h4⟩
 ·refine ⟨(), Fs, ChangeMaps.setBlock w b (.map es clock), ?_, tr_set hh fun es1 clock1 hb1 hm1 => ?_⟩
  ·simp [Builtin.delete_, run_underlying ht, Result.andThen, MapKept.run_getObj_map hb, run_checkKey hk hkey, run_findKey hk h1, run_setObj_map _ hb, ChangeMaps.setBlock]
  ·rw [hb] at hb1; cases hb1;exact hm.del hm.stamped (fun e he => ⟨he, h3 e he⟩) (fun e he _ => he)
 ·have hj : j < es.size := by simpa using (List.getElem?_eq_some_iff.1 h2).1
  refine ⟨(), Fs, ChangeMaps.setBlock w b (.map (es.eraseIdxIfInBounds j) clock), ?_, tr_set hh fun es1 clock1 hb1 hm1 => ?_⟩
  ·simp [Builtin.delete_, run_underlying ht, Result.andThen, MapKept.run_getObj_map hb, run_checkKey hk hkey, run_findKey hk h1, run_setObj_map _ hb, ChangeMaps.setBlock]
  ·rw [hb] at hb1; cases hb1;refine hm.del (stamped_erase hm.stamped j) (fun e' he => ?_) (fun e' he hne => ?_)
   ·obtain ⟨i, hne, hi⟩ := (mem_erase hj).1 he;exact ⟨List.mem_of_getElem? hi, fun ek => hne (nodup_at hm.stamped.2.2 hi h2 (ek.trans h3.key.symm))⟩
   ·obtain ⟨i, hi⟩ := List.mem_iff_getElem?.1 he;exact (mem_erase hj).2 ⟨i, fun e' => by subst e'; rw [hi] at h2; cases h2; exact hne h3.key, hi⟩
theorem o_mrange {m : Operand} {t kt et : TypeId} {b i : Nat} {T : List (FileG β)} {Ξ' : List Xsn} (ht : P.underlying t = some (.map kt et)) (hm : ev σ m = some (.map (some b))) (hs : takeAll [i] Ξ = some ([tr b T], Ξ')) (hd : Nat.blt d n.n = true) :
  OpR P ⟨some d, .range t m, ty, pos, af, none⟩ (St M0 F0 w0 n σ Ξ Γ) (fun a w => ∃ r, St M0 F0 w0 n ((d, .pointer (some ⟨r, 0, none⟩)) :: σ) (mit b r T [] :: Ξ') Γ a w) := by
 refine (o_loc (run := fun w => (Instr.range t (.map (some b))).run P w) (X := Nat) (rv := fun r => .pointer (some ⟨r, 0, none⟩)) (Ξo := fun r => [mit b r T []]) (Γo := fun _ => []) (Γi := []) ?_ (fun a hs w v w' h => by simp [execOp, hs.ev hm, h, Result.andThen]) hs .d hd).mono fun a w h => h;intro M0 Fs w hh;obtain ⟨F, rfl, hF, es, clock, hb, hmm⟩ := hh.one_of;have hlt : b < w.heap.size := (Array.getElem?_eq_some_iff.1 hb).1;have ho : ∀ x, own [F] x ↔ F x := fun x => by simp [own]
 have hal := heap_alloc w (.mapIter (some b) clock #[] clock);refine ⟨w.heap.size, [fun x => x = b ∨ x = w.heap.size], _, run_range_map w t kt et b es clock ht hb, hh.oneG ⟨rfl, rfl, rfl, by simp, fun x hx _ => hal.2 x hx⟩ (fun x hx => ?_) (fun x hx => ?_) ⟨by omega, fun x => Iff.rfl, es, clock, clock, #[], clock, by rw [hal.2 b hlt, hb], hal.1, ?_, hmm.stamped.1, Nat.le_refl _, Nat.le_refl _, List.nodup_nil, (fun x hx => by cases hx), (fun e he => by simp), (fun x hx => by cases hx)⟩ (fun p hp => by cases hp)⟩
 ·rcases hx with rfl | rfl
  ·exact .inl ((hF _).2 rfl)
  ·exact .inr (Nat.le_refl _)
 ·rcases hx with rfl | rfl <;> simp <;> omega
 ·refine hmm.st (fun x hx _ => hal.2 x hx) (fun x hx hM => ?_) (by simp);rcases hM with hM | hM
  ·exact .inl hM
  ·refine .inr ((ho x).2 ((hF x).2 ?_));have : x = b ∨ x = w.heap.size := by simpa [own] using hM
   omega
theorem contains_push (s : Array Nat) (v a : Nat) : (s.push v).contains a = (s.contains a || a == v) := by
 rw [Bool.eq_iff_iff];simp
theorem loc_nextS {M0 : Nat → Prop} {Fs : List (Nat → Prop)} {w : World} {ty : TypeId} {b r : Nat} {T K : List (FileG β)} (hh : Hp M0 (own Fs) w [mit b r T K] [] Fs w) (hK : ∃ x ∈ T, x ∉ K) :
  ∃ (z : {z : FileG β × (Option Addr × Nat) // z.1 ∈ T ∧ z.1 ∉ K}) (Fs' : List (Nat → Prop)) (w' : World), (Instr.next (.pointer (some ⟨r, 0, none⟩)) false ty).run P w = .ok (.tuple [.bool true, .string z.1.1.1, .slice z.1.2.1 z.1.1.2.length z.1.2.2].toArray) w' ∧
   Hp M0 (own Fs) w [mit b r T (K ++ [z.1.1])] [slA z.1.2.1 z.1.1.2, nilA z.1.2] Fs' w' := by
 obtain ⟨F, rfl, hbr, hF, es, clock, since, seen, c0, hb, hr, hm, hold, h1, h2, hKn, hKT, hseen, hlast⟩ := hh.one_of;have ho : ∀ x, own [F] x ↔ F x := fun x => by simp [own]
 rcases run_next_at (P := P) w ty r b since c0 seen es clock hr hb hold h1 with ⟨h3, _⟩ | ⟨e, he, w1, hw1, hrun⟩
 ·exfalso
  obtain ⟨x, hx, hxK⟩ := hK;obtain ⟨e, he, hke⟩ := hm.cov x hx;have hno : seen.contains e.born = false := by
   rw [← Bool.not_eq_true];intro hc;obtain ⟨x', hx', hk'⟩ := (hseen e he).1 hc;have := hm.so.key_eq (hKT x' hx') hx (key_inj (hk'.symm.trans hke));exact hxK (this ▸ hx')
  have : e ∈ (leftOf es seen).toList := by
   unfold leftOf;rw [Array.toList_filter, List.mem_filter];exact ⟨he, by simpa using hno⟩
  have h4 : (leftOf es seen).toList.length = 0 := by simpa using h3
  rw [List.eq_nil_of_length_eq_zero h4] at this;cases this
 ·have he' : e ∈ es.toList ∧ seen.contains e.born = false := by
   unfold leftOf at he;rw [Array.toList_filter, List.mem_filter] at he;exact ⟨he.1, by simpa using he.2⟩
  obtain ⟨x, hx, hxe⟩ := hm.ent e he'.1;obtain ⟨y, hy1, hy2, hy3⟩ := hxe.val;have hxK : x ∉ K := fun hxK => by
   have := (hseen e he'.1).2 ⟨x, hxK, hxe.key⟩;rw [he'.2] at this; cases this
  have hh1 : w1.heap = w.heap ∧ w1.os = w.os ∧ w1.tape = w.tape ∧ w1.output = w.output := by rcases hw1 with rfl | rfl <;> exact ⟨rfl, rfl, rfl, rfl⟩
  have hltr : r < w.heap.size := (Array.getElem?_eq_some_iff.1 hr).1;have hr1 : w1.heap[r]? = some (.mapIter (some b) since seen c0) := by rw [hh1.1]; exact hr
  have hset := heap_set (o' := .mapIter (some b) since (seen.push e.born) clock) hr1;have hsz : (ChangeMaps.setBlock w1 r (.mapIter (some b) since (seen.push e.born) clock)).heap.size = w.heap.size := by simp [ChangeMaps.setBlock, hh1.1]
  have hblk : ∀ x, x ≠ r → (ChangeMaps.setBlock w1 r (.mapIter (some b) since (seen.push e.born) clock)).heap[x]? = w.heap[x]? := fun x hx => (hset.2 x hx).trans (by rw [hh1.1]);have hstM : ∀ x, x < w.heap.size → ¬ (M0 x ∨ own [F] x) → (ChangeMaps.setBlock w1 r (.mapIter (some b) since (seen.push e.born) clock)).heap[x]? = w.heap[x]? := fun x _ hM => hblk x fun e => hM (.inr ((ho x).2 ((hF x).2 (.inr e))));refine ⟨⟨(x, y), hx, hxK⟩, [F], ChangeMaps.setBlock w1 r (.mapIter (some b) since (seen.push e.born) clock), ?_, hh.oneG ⟨hh1.2.1, hh1.2.2.1, hh1.2.2.2, Nat.le_of_eq hsz.symm, fun x _ hn => hblk x fun e => hn ((hF x).2 (.inr e))⟩ (fun x h => .inl h) (fun x h => hsz ▸ hh.lt x ((ho x).2 h))
   ⟨hbr, hF, es, clock, since, seen.push e.born, clock, by rw [hblk b hbr, hb], hset.1, hm.st hstM (fun _ _ h => h) (Nat.le_of_eq hsz.symm), hold, h2, h2, ?_, ?_, ?_, ?_⟩ ?_⟩
  ·rw [hrun, hxe.key, hy1]
  ·exact List.nodup_append.2 ⟨hKn, by simp, fun a ha b hb e => hxK (by simp at hb; exact hb ▸ e ▸ ha)⟩
  ·intro z hz;rcases List.mem_append.1 hz with hz | hz
   ·exact hKT z hz
   ·rw [List.mem_singleton.1 hz]; exact hx
  ·intro e2 he2;rw [contains_push, Bool.or_eq_true, hseen e2 he2];constructor
   ·rintro (⟨x', h, k⟩ | h)
    ·exact ⟨x', List.mem_append.2 (.inl h), k⟩
    ·obtain ⟨i, hi⟩ := List.mem_iff_getElem?.1 he2;obtain ⟨j, hj⟩ := List.mem_iff_getElem?.1 he'.1;have := nodup_at (f := (·.born)) hm.stamped.2.1 hi hj (by simpa using h);subst this;rw [hi] at hj; cases hj;exact ⟨x, by simp, hxe.key⟩
   ·rintro ⟨x', h, k⟩;rcases List.mem_append.1 h with h | h
    ·exact .inl ⟨x', h, k⟩
    ·rw [List.mem_singleton.1 h] at k;obtain ⟨i, hi⟩ := List.mem_iff_getElem?.1 he2;obtain ⟨j, hj⟩ := List.mem_iff_getElem?.1 he'.1;have := nodup_at (f := (·.key)) hm.stamped.2.2 hi hj (k.trans hxe.key.symm);subst this;rw [hi] at hj; cases hj;exact .inr (by simp)
  ·intro x' hx';rw [List.getLast?_concat] at hx';cases hx';exact ⟨rfl, e, he'.1, hxe.key, by simp⟩
  ·intro p hp;rcases List.mem_cons.1 hp with rfl | hp
   ·exact (slA y.1 x.2).st _ _ _ _ hy2 hstM (fun _ _ h => h) (Nat.le_of_eq hsz.symm)
   ·rw [List.mem_singleton.1 hp];exact (nilA y).st _ _ _ _ hy3 hstM (fun _ _ h => h) (Nat.le_of_eq hsz.symm)
theorem o_mnextS {it : Operand} {b r i : Nat} {T K : List (FileG β)} {Ξ' : List Xsn} (hx : ev σ it = some (.pointer (some ⟨r, 0, none⟩))) (hs : takeAll [i] Ξ = some ([mit b r T K], Ξ')) (hK : ∃ x ∈ T, x ∉ K) (hd : Nat.blt d n.n = true) :
  OpR P ⟨some d, .next it false, ty, pos, af, none⟩ (St M0 F0 w0 n σ Ξ Γ) (fun a w => ∃ z : {z : FileG β × (Option Addr × Nat) // z.1 ∈ T ∧ z.1 ∉ K},
   St M0 F0 w0 n ((d, .tuple [.bool true, .string z.1.1.1, .slice z.1.2.1 z.1.1.2.length z.1.2.2].toArray) :: σ) (mit b r T (K ++ [z.1.1]) :: Ξ') (slA z.1.2.1 z.1.1.2 :: nilA z.1.2 :: Γ) a w) :=
 (o_loc (run := fun w => (Instr.next (.pointer (some ⟨r, 0, none⟩)) false ty).run P w) (Γi := []) (X := {z : FileG β × (Option Addr × Nat) // z.1 ∈ T ∧ z.1 ∉ K}) (rv := fun z => .tuple [.bool true, .string z.1.1.1, .slice z.1.2.1 z.1.1.2.length z.1.2.2].toArray)
  (Ξo := fun z => [mit b r T (K ++ [z.1.1])]) (Γo := fun z => [slA z.1.2.1 z.1.1.2, nilA z.1.2]) (fun _ _ _ h => loc_nextS h hK) (fun a hs w v w' h => by simp only [execOp, hs.ev hx, Sem.run_bind, h, Result.andThen]; rfl) hs .d hd).mono fun a w h => h
theorem o_mnextN {it : Operand} {b r i : Nat} {T K : List (FileG β)} (hx : ev σ it = some (.pointer (some ⟨r, 0, none⟩))) (hi : At (mit b r T K) i Ξ) (hK : ¬ ∃ x ∈ T, x ∉ K) (hd : Nat.blt d n.n = true) :
  OpR P ⟨some d, .next it false, ty, pos, af, none⟩ (St M0 F0 w0 n σ Ξ Γ) (St M0 F0 w0 n ((d, .tuple [.bool false].toArray) :: σ) Ξ Γ) :=
 OpR.of_run rfl fun a w ⟨hs, Fs, hh⟩ => by
  obtain ⟨F, _, hbr, hF, es, clock, since, seen, c0, hb, hr, hm, hold, h1, h2, hKn, hKT, hseen, hlast⟩ := hh.ex.at hi.get;refine ⟨_, w, ?_, hs.put hd, Fs, hh⟩;rcases run_next_at (P := P) w ty r b since c0 seen es clock hr hb hold h1 with ⟨h3, hrun⟩ | ⟨e, he, w1, hw1, hrun⟩
  ·simp only [execOp, hs.ev hx, Sem.run_bind, hrun, Result.andThen]; rfl
  ·exfalso
   unfold leftOf at he;rw [Array.toList_filter, List.mem_filter] at he;obtain ⟨x, hx, hxe⟩ := hm.ent e he.1;refine hK ⟨x, hx, fun hxK => ?_⟩;have := (hseen e he.1).2 ⟨x, hxK, hxe.key⟩;have h5 : seen.contains e.born = false := by simpa using he.2
   rw [this] at h5; cases h5
/-! what is known of one -/
theorem cpure {c : Code} {φ : Prop} (h : ∀ a w, S a w → φ) (k : φ → TrC ro P Q S c) : TrC ro P Q S c := fun a w hS => k (h a w hS) a w hS
theorem St.tr {i b : Nat} {T : List (FileG β)} (hi : At (Sx.tr b T) i Ξ) : ∀ a w, St M0 F0 w0 n σ Ξ Γ a w → Sor T := fun a w ⟨_, Fs, hh⟩ => by
 obtain ⟨es, clock, _, h⟩ := hh.tr hi;exact h.so
theorem St.mit {i b r : Nat} {T K : List (FileG β)} (hi : At (Sx.mit b r T K) i Ξ) : ∀ a w, St M0 F0 w0 n σ Ξ Γ a w → Sor T ∧ K.Nodup ∧ ∀ x ∈ K, x ∈ T := fun a w ⟨_, Fs, hh⟩ => by
 obtain ⟨F, _, hbr, hF, es, clock, since, seen, c0, hb, hr, hm, hold, h1, h2, hKn, hKT, hseen, hlast⟩ := hh.ex.at hi.get;exact ⟨hm.so, hKn, hKT⟩
end
theorem nodup_le {α : Type} [DecidableEq α] : ∀ (K T : List α), K.Nodup → (∀ x ∈ K, x ∈ T) → K.length ≤ T.length
 | [], T, _, _ => by simp
 | x :: K, T, hn, hs => by
  obtain ⟨h1, h2⟩ := List.nodup_cons.1 hn;have hx := hs x (by simp);have := nodup_le K (T.erase x) h2 (fun y hy => (List.mem_erase_of_ne (fun e => h1 (by rw [← e]; exact hy))).2 (hs y (by simp [hy])));rw [List.length_erase_of_mem hx] at this;have hpos := List.length_pos_of_mem hx;simp only [List.length_cons]; omega
theorem nodup_lt {α : Type} [DecidableEq α] {K T : List α} (hn : K.Nodup) (hs : ∀ x ∈ K, x ∈ T) (hx : ∃ x ∈ T, x ∉ K) : K.length < T.length := by
 obtain ⟨x, h1, h2⟩ := hx;have := nodup_le (x :: K) T (List.nodup_cons.2 ⟨h2, hn⟩) (fun y hy => by rcases List.mem_cons.1 hy with rfl | hy; exact h1; exact hs y hy);simp only [List.length_cons] at this;omega
theorem perm_of_all {γ : Type} {K T : List (FileG γ)} (hT : Sor T) (hn : K.Nodup) (hs : ∀ x ∈ K, x ∈ T) (hx : ¬ ∃ x ∈ T, x ∉ K) : K.Perm T :=
 (List.perm_ext_iff_of_nodup hn hT.nodup).2 fun x => ⟨hs x, fun h => Classical.byContradiction fun k => hx ⟨x, h, k⟩⟩
theorem eq_of_all {T U : List File} (hT : Sor T) (hU : Sor U) (hl : T.length = U.length) (h : ∀ x ∈ T, getT U x.1 = some x.2) : T = U := by
 have hs : ∀ x ∈ T, x ∈ U := fun x hx => (getT_some hU).1 (h x hx);refine sor_ext hT hU fun x => ⟨hs x, fun hx => Classical.byContradiction fun hn => ?_⟩;have := nodup_lt hT.nodup hs ⟨x, hx, hn⟩;omega
theorem ne_of_one {T U : List File} (hT : Sor T) {x : File} (hx : x ∈ T) (h : ¬ getT U x.1 = some x.2) : ¬ T = U := fun e => h (by subst e; exact (getT_some hT).2 hx)
end Go.Sx
end
section
namespace Go.Sx
open Go Go.RowKit Go.MapKept
def capA (c n : Nat) : Asn where
 p _ _ := n ≤ c
 st := fun _ _ _ _ h _ _ _ => h
section
variable {ro : Option Nat} {P : Program} {M0 F0 : Nat → Prop} {w0 : World} {n : Nm} {σ : List (Nat × Value)} {Ξ : List Xsn} {Γ : List Asn} {d : Nat} {ty : TypeId} {pos : String} {af : Array Edge}
variable {ops : Array Oper} {Q : Exit → Act → World → Prop} {S S' : Act → World → Prop}
theorem fixA {ef : List Nat} {TL : List (Nat × Nat × Nat × List Value)} {fuel : Nat} {L : List Nat} {v v' : Value} (e : v = v') (k : TrA ro P ops Q ef TL (St M0 F0 w0 n ((d, v') :: σ) Ξ Γ) fuel L) : TrA ro P ops Q ef TL (St M0 F0 w0 n ((d, v) :: σ) Ξ Γ) fuel L := e ▸ k
theorem freezeN {α : Type} [Rp α] {e : TypeId} {A : Option Addr} {c : Nat} {l : List α} {i : Nat} {Ξ' : List Xsn} {a : Act} {w : World} (hi : takeAt i Ξ = some (row e A c l, Ξ')) (h : St M0 F0 w0 n σ Ξ Γ a w) : St M0 F0 w0 n σ Ξ' (slA A l :: nilA (A, c) :: capA c l.length :: Γ) a w := by
 have hcp : l.length ≤ c := by
  obtain ⟨hs, Fs, hh⟩ := h;obtain ⟨F, Fs', h1, ⟨xs, ho, hF, hr⟩, h3⟩ := hh.ex.takeAt hi;rcases ho.2 with ⟨hv, h0⟩ | ⟨g, cap, cur, hv, _, _, h2, _⟩
  ·omega
  ·injection hv with _ _ h; omega
 have hn : A = none → c = 0 := by
  obtain ⟨hs, Fs, hh⟩ := h;obtain ⟨F, Fs', h1, ⟨xs, ho, hF, hr⟩, h3⟩ := hh.ex.takeAt hi;rcases ho.2 with ⟨hv, _⟩ | ⟨g, cap, cur, hv, _⟩
  ·injection hv with _ _ h; exact fun _ => h
  ·injection hv with h _ _; intro e; rw [e] at h; cases h
 obtain ⟨hs, Fs, hh⟩ := freeze hi h;refine ⟨hs, Fs, { hh with ga := fun p hp => ?_ }⟩;rcases List.mem_cons.1 hp with rfl | hp
 ·exact hh.ga _ (by simp)
 ·rcases List.mem_cons.1 hp with rfl | hp
  ·exact hn
  ·rcases List.mem_cons.1 hp with rfl | hp
   ·exact hcp
   ·exact hh.ga p (by simp [hp])
theorem nilN {a : Act} {w : World} (h : St M0 F0 w0 n σ Ξ Γ a w) : St M0 F0 w0 n σ Ξ (slA (α := ByteArray) none [] :: nilA (none, 0) :: capA 0 0 :: Γ) a w := by
 obtain ⟨hs, Fs, hh⟩ := nilSl (α := ByteArray) h;refine ⟨hs, Fs, { hh with ga := fun p hp => ?_ }⟩;rcases List.mem_cons.1 hp with rfl | hp
 ·exact hh.ga _ (by simp)
 ·rcases List.mem_cons.1 hp with rfl | hp
  ·exact fun _ => rfl
  ·rcases List.mem_cons.1 hp with rfl | hp
   ·exact Nat.le_refl 0
   ·exact hh.ga p (by simp [hp])
theorem St.cap {c m i : Nat} (hi : At (capA c m) i Γ) : ∀ a w, St M0 F0 w0 n σ Ξ Γ a w → m ≤ c := fun a w ⟨_, Fs, hh⟩ => hh.ga _ (List.mem_of_getElem? hi.get)
theorem capQ {c m : Nat} (h : m ≤ c) {a : Act} {w : World} (hS : St M0 F0 w0 n σ Ξ Γ a w) : St M0 F0 w0 n σ Ξ (capA c m :: Γ) a w := by
 obtain ⟨hs, Fs, hh⟩ := hS;refine ⟨hs, Fs, { hh with ga := fun p hp => ?_ }⟩;rcases List.mem_cons.1 hp with rfl | hp
 ·exact h
 ·exact hh.ga p hp
theorem o_mdel0 {β : Type} [Rp β] {m k : Operand} {t t2 kt et : TypeId} {b i : Nat} {kk : ByteArray} {T : List (FileG β)} {Ξ' : List Xsn} (ht : P.underlying t = some (.map kt et)) (hk : P.underlying kt = some .string)
  (hm : ev σ m = some (.map (some b))) (hx : ev σ k = some (.string kk)) (hs : takeAll [i] Ξ = some ([tr b T], Ξ')) :
  OpR P ⟨none, .call ⟨.builtin .delete, #[m, k], #[t, t2]⟩, ty, pos, af, none⟩ (St M0 F0 w0 n σ Ξ Γ) (St M0 F0 w0 n σ (tr b (delT T kk) :: Ξ') Γ) :=
 OpR.of_run rfl fun a w ⟨hsl, Fs, hh⟩ => by
  obtain ⟨Gs, Hs, hp, hin, hr'⟩ := hh.select (Γi := []) hs (fun p hp => by cases hp);obtain ⟨x, Fs', w', h1, h2⟩ := loc_mdel (t2 := t2) (ty := ty) ht hk kk hin;exact ⟨.tuple #[], w', by simp [execOp, resolve, invoke, builtin, hsl.ev hm, hsl.ev hx, h1, Result.andThen], hsl, _, hh.back hp hr' h2⟩
theorem o_mupdN {m k v : Operand} {t kt et : TypeId} {b i : Nat} {kk : ByteArray} {T : List File} {Ξ' : List Xsn} (ht : P.underlying t = some (.map kt et)) (hk : P.underlying kt = some .string)
  (hm : ev σ m = some (.map (some b))) (hx : ev σ k = some (.string kk)) (hv : ev σ v = some (.slice none 0 0)) (hs : takeAll [i] Ξ = some ([tr b T], Ξ')) :
  OpR P ⟨none, .mapUpdate t m k v, ty, pos, af, none⟩ (St M0 F0 w0 n σ Ξ Γ) (St M0 F0 w0 n σ (tr b (putT T kk []) :: Ξ') Γ) := by
 have h := o_mupd (M0 := M0) (F0 := F0) (w0 := w0) (n := n) (Γ := slA (α := ByteArray) none [] :: nilA (none, 0) :: capA 0 0 :: Γ) (ty := ty) (pos := pos) (af := af) (A := none) (c := 0) (l := []) ht hk hm hx hv hs (.s .z (.s (.s .z) .d));exact fun K Q a w hS hK => h K Q a w (nilN hS) fun a' w' ⟨hs', Fs, hh⟩ => hK a' w' ⟨hs', Fs, { hh with ga := fun p hp => hh.ga p (by simp [hp]) }⟩
theorem o_mentry {β : Type} [Rp β] {it : Operand} {b r i : Nat} {T K : List (FileG β)} {x : FileG β} (hx : ev σ it = some (.pointer (some ⟨r, 0, none⟩))) (hi : At (mit b r T (K ++ [x])) i Ξ) (hd : Nat.blt d n.n = true) :
  OpR P ⟨some d, .entry it, ty, pos, af, none⟩ (St M0 F0 w0 n σ Ξ Γ) (fun a w => ∃ y : Option Addr × Nat, St M0 F0 w0 n ((d, .tuple [.string x.1, .slice y.1 x.2.length y.2].toArray) :: σ) Ξ (slA y.1 x.2 :: nilA y :: Γ) a w) :=
 OpR.of_run rfl fun a w ⟨hs, Fs, hh⟩ => by
  obtain ⟨F, _, hbr, hF, es, clock, since, seen, c0, hb, hr, hm, hold, h1, h2, hKn, hKT, hseen, hlast⟩ := hh.ex.at hi.get;obtain ⟨rfl, e, he, hke, hbk⟩ := hlast x (List.getLast?_concat ..);obtain ⟨x', hx', hxe⟩ := hm.ent e he;have : x' = x := hm.so.key_eq hx' (hKT x (by simp)) (key_inj (hxe.key.symm.trans hke));subst this;obtain ⟨y, hy1, hy2, hy3⟩ := hxe.val;have hf : es.find? (fun e' => e'.born == e.born) = some e := by rw [← Array.find?_toList]; exact find_born e es.toList hm.stamped.2.1 he
  have hrun : (Instr.entry (.pointer (some ⟨r, 0, none⟩))).run P w = .ok (.tuple #[e.key, e.val]) w := by
   simp only [Instr.entry, getObj, Sem.run_bind, Sem.run, hr, hb, Result.andThen, hbk, bne_self_eq_false, Bool.false_eq_true, if_false, hf]
   rfl
  refine ⟨_, w, by simp only [execOp, hs.ev hx, Sem.run_bind, hrun, Result.andThen, hxe.key, hy1]; rfl, y, hs.put hd, Fs, { hh with ga := fun p hp => ?_ }⟩;rcases List.mem_cons.1 hp with rfl | hp
  ·exact hy2
  ·rcases List.mem_cons.1 hp with rfl | hp
   ·exact hy3
   ·exact hh.ga p hp
/-! a map that is known, entry by entry -/
theorem o_mmkx {t : TypeId} (hd : Nat.blt d n.n = true) : OpR P ⟨some d, .makeMap t none, ty, pos, af, none⟩ (St M0 F0 w0 n σ Ξ Γ) (fun a w => ∃ b, St M0 F0 w0 n ((d, .map (some b)) :: σ) (obj b (.map #[] 0) :: Ξ) Γ a w) :=
 OpR.of_run rfl fun a w ⟨hs, Fs, hh⟩ => by
  obtain ⟨Fs', h1⟩ := hh.allocO (.map #[] 0);exact ⟨_, _, by simp [execOp, Instr.makeMap, newObj, Sem.run, Result.andThen], w.heap.size, hs.put hd, Fs', h1⟩
theorem o_insx {m k v : Operand} {t kt et : TypeId} {b i : Nat} {kd : IntKind} {z : Int} {vv : Value} {es : List MapEntry} {clock : Nat} (ht : P.underlying t = some (.map kt et)) (hk : P.underlying kt = some (.int kd))
  (hm : ev σ m = some (.map (some b))) (hx : ev σ k = some (.int kd z)) (hv : ev σ v = some vv) (hf : Instr.findNow (.int kd) (.int kd z) es 0 = some none) (hi : At (obj b (.map es.toArray clock)) i Ξ) {Ξ' : List Xsn} (hs' : SetAt (obj b (.map (es ++ [({ key := .int kd z, val := vv, born := clock } : MapEntry)]).toArray (clock + 1))) i Ξ Ξ') :
  OpR P ⟨none, .insert t m k v, ty, pos, af, none⟩ (St M0 F0 w0 n σ Ξ Γ) (St M0 F0 w0 n σ Ξ' Γ) :=
 OpR.of_skip rfl fun a w ⟨hs, Fs, hh⟩ => by
  obtain ⟨rfl, _⟩ := hs'.eq;have hb := hh.obj hi.get;have hkey : IsKey (.int kd) (.int kd z) := rfl;refine ⟨_, ?_, hs, Fs, hh.setObj hi.get _⟩;simp only [execOp, hs.ev hm, hs.ev hx, hs.ev hv, Sem.run_bind, Instr.mapUpdate, run_underlying ht, Result.andThen, MapKept.run_getObj_map hb, run_checkKey hk hkey, run_findKey hk hf, run_setObj_map _ hb];simp [World.putObj]
theorem o_lookx {m k : Operand} {t kt et : TypeId} {b i j : Nat} {kd : IntKind} {z : Int} {vv : Value} {es : List MapEntry} {clock : Nat} (ht : P.underlying t = some (.map kt et)) (hk : P.underlying kt = some (.int kd))
  (hm : ev σ m = some (.map (some b))) (hx : ev σ k = some (.int kd z)) (hi : At (obj b (.map es.toArray clock)) i Ξ) (hf : Instr.findNow (.int kd) (.int kd z) es 0 = some (some (j, vv))) (hd : Nat.blt d n.n = true) :
  OpR P ⟨some d, .lookup t m k false, ty, pos, af, none⟩ (St M0 F0 w0 n σ Ξ Γ) (St M0 F0 w0 n ((d, vv) :: σ) Ξ Γ) :=
 OpR.of_run rfl fun a w ⟨hs, Fs, hh⟩ => by
  have hb := hh.obj hi.get;have hkey : IsKey (.int kd) (.int kd z) := rfl;refine ⟨_, w, ?_, hs.put hd, Fs, hh⟩;simp only [execOp, hs.ev hm, hs.ev hx, Sem.run_bind, Instr.lookup, run_underlying ht, Result.andThen, MapKept.run_getObj_map hb, run_checkKey hk hkey, run_findKey hk hf, Sem.run_pure];simp
/-! the copy of a map -/
theorem equal_mapnil {w : World} (k : Nat) {t kt et : TypeId} {p : Option Nat} (ht : P.underlying t = some (.map kt et)) : (Op.equalIn (k + 1) t (.map p) (.map none)).run P w = .ok p.isNone w := by
 cases p <;> simp [Op.equalIn, run_underlying ht]
theorem p_mapnil {T : World → Prop} {x : Operand} {t t' kt et : TypeId} {b : Nat} (ht : P.underlying t = some (.map kt et)) (hx : ev σ x = some (.map (some b))) : Pu P n σ T ⟨some d, .binOp .eql t x (.const (.map none)) t', ty, pos, af, none⟩ (.bool false) :=
 fun a hs w _ => by
  have h1 : (Op.equal t (.map (some b)) (.map none)).run P w = .ok false w := equal_mapnil 9999 ht;have h2 : a.eval (.const (.map none)) = .map none := rfl;simp [execOp, hs.ev hx, h2, eqGuard_at_map, binOp, h1]
theorem p_mkif {T : World → Prop} {x : Operand} {t kt et : TypeId} {v : Value} (ht : P.underlying t = some (.map kt et)) (hx : ev σ x = some v) : Pu P n σ T ⟨some d, .makeInterface t x, ty, pos, af, none⟩ (.iface t v) :=
 fun a hs w _ => by simp [execOp, hs.ev hx, Instr.makeInterface, run_underlying ht]
theorem p_tas {T : World → Prop} {x : Operand} {t xt kt et : TypeId} {v : Value} (ht : P.underlying t = some (.map kt et)) (hx : ev σ x = some (.iface t v)) : Pu P n σ T ⟨some d, .typeAssert x xt t false, ty, pos, af, none⟩ v :=
 fun a hs w _ => by simp [execOp, hs.ev hx, Instr.typeAssert, run_underlying ht, Result.andThen]
theorem run_mclone {w : World} {r : Nat} {es : Array MapEntry} {clock : Nat} (t : TypeId) (hb : w.heap[r]? = some (.map es clock)) :
  (Extern.MapsClone.clone #[.iface t (.map (some r))]).run P w = .ok (.iface t (.map (some w.heap.size))) (w.alloc (.map es clock)) := by
 have e : Extern.MapsClone.clone #[.iface t (.map (some r))] = (getObj r >>= fun o => match o with
   | .map entries clock => (newObj (.map entries clock) >>= fun n => pure (.iface t (.map (some n))))
   | _ => stuck "maps.clone: a map expected") := rfl
 rw [e];simp [MapKept.run_getObj_map hb, Result.andThen, newObj, Sem.run]
theorem o_mclone {β : Type} [Rp β] {x : Operand} {f : FuncId} {fn : Func} {t : TypeId} {tys : Array TypeId} {b i : Nat} {T : List (FileG β)} (hf : P.funcs[f]? = some fn) (hname : (fn.name == "runtime.NumGoroutine") = false)
  (hbd : fn.body.isNone = true) (hn : Extern.findNext fn = none) (he : Extern.find fn = some Extern.MapsClone.clone) (hx : ev σ x = some (.iface t (.map (some b)))) (hi : At (tr b T) i Ξ) (hd : Nat.blt d n.n = true) :
  OpR P ⟨some d, .call ⟨.value (.func f), #[x], tys⟩, ty, pos, af, none⟩ (St M0 F0 w0 n σ Ξ Γ) (fun a w => ∃ b', St M0 F0 w0 n ((d, .iface t (.map (some b'))) :: σ) (tr b' T :: Ξ) Γ a w) :=
 OpR.of_run rfl fun a w ⟨hs, Fs, hh⟩ => by
  obtain ⟨es, clock, hb, hm⟩ := hh.tr hi;have hlt : b < w.heap.size := (Array.getElem?_eq_some_iff.1 hb).1;obtain ⟨Fs', h1⟩ := hh.allocO (.map es clock);obtain ⟨es2, clock2, hb2, hm2⟩ := h1.tr (i := i + 1) (.s hi);rw [(heap_alloc w _).2 b hlt, hb] at hb2;cases hb2;obtain ⟨Fs2, h2⟩ := h1.conv1 (x' := tr w.heap.size T) (fun F h => ⟨F, fun _ h => h, h.1, es, clock, h.2, hm2⟩);refine ⟨_, _, ?_, w.heap.size, hs.put hd, Fs2, h2⟩;have e1 : (#[x] : Array Operand).map a.eval = #[.iface t (.map (some b))] := by simp [hs.ev hx]
  have e2 := run_callFunc_extern hf hname hbd hn he #[.iface t (.map (some b))] w;rw [run_mclone t hb] at e2;simp only [Result.andThen] at e2;simp only [execOp, resolve, Deferred.ofValue, Act.eval, invoke];simp [hs.ev hx, e2]
end
end Go.Sx
end
section
namespace Go.Sx
open Go Go.RowKit Go.Proofs
section
variable {ro : Option Nat} {P : Program} {M0 F0 : Nat → Prop} {w0 : World} {n : Nm} {σ : List (Nat × Value)} {Ξ : List Xsn} {Γ : List Asn} {d : Nat} {ty : TypeId} {pos : String} {af : Array Edge}
variable {ops : Array Oper} {Q : Exit → Act → World → Prop} {S S' : Act → World → Prop}
theorem p_max {T : World → Prop} {x y : Operand} {t t' : TypeId} {k b : Int} (hx : ev σ x = some (.int .i64 k)) (hy : ev σ y = some (.int .i64 b)) :
  Pu P n σ T ⟨some d, .call ⟨.builtin .max, #[x, y], #[t, t']⟩, ty, pos, af, none⟩ (.int .i64 (max k b)) :=
 fun a hs w _ => by
  simp only [execOp, resolve, invoke, builtin, hs.ev hx, hs.ev hy, Builtin.max_, Builtin.max2];simp [hs.ev hx, hs.ev hy, Builtin.max2]
  split <;> omega
theorem nilP {y : Option Addr × Nat} {i : Nat} {c : Code} (hi : At (nilA y) i Γ) (k : (y.1 = none → y.2 = 0) → TrC ro P Q (St M0 F0 w0 n σ Ξ Γ) c) : TrC ro P Q (St M0 F0 w0 n σ Ξ Γ) c := fun a w hS => by
 obtain ⟨hs, Fs, hh⟩ := hS;exact k (hh.ga _ (List.mem_of_getElem? hi.get)) a w ⟨hs, Fs, hh⟩
theorem nilQ {y : Option Addr × Nat} (h : y.1 = none → y.2 = 0) {a : Act} {w : World} (hS : St M0 F0 w0 n σ Ξ Γ a w) : St M0 F0 w0 n σ Ξ (nilA y :: Γ) a w := by
 obtain ⟨hs, Fs, hh⟩ := hS;refine ⟨hs, Fs, { hh with ga := fun p hp => ?_ }⟩;rcases List.mem_cons.1 hp with rfl | hp
 ·exact h
 ·exact hh.ga p hp
theorem p_ptrnil {T : World → Prop} {x y : Operand} {t e t' : TypeId} {a : Addr} (ht : P.underlying t = some (.pointer e)) (hx : ev σ x = some (.pointer (some a))) (hy : ev σ y = some (.pointer none)) :
  Pu P n σ T ⟨some d, .binOp .eql t x y t', ty, pos, af, none⟩ (.bool false) := fun b hs w _ => by
 have h1 : (binOp .eql t (.pointer (some a)) (.pointer none)).run P w = .ok (.bool false) w := by
  have h0 : P.pointee t = e := by unfold Program.pointee; rw [ht]
  simp [binOp, run_equal_pointer_nil w t (some a) (by rw [h0]; exact ht)]
 simp [execOp, hs.ev hx, hs.ev hy, eqGuard_at_pointer, h1]
theorem p_ptrnn {T : World → Prop} {x y : Operand} {t e t' : TypeId} {a : Addr} (ht : P.underlying t = some (.pointer e)) (hx : ev σ x = some (.pointer (some a))) (hy : ev σ y = some (.pointer none)) :
  Pu P n σ T ⟨some d, .binOp .neq t x y t', ty, pos, af, none⟩ (.bool true) := fun b hs w _ => by
 have h1 : (binOp .neq t (.pointer (some a)) (.pointer none)).run P w = .ok (.bool true) w := by
  have h0 : P.pointee t = e := by unfold Program.pointee; rw [ht]
  simp [binOp, run_equal_pointer_nil w t (some a) (by rw [h0]; exact ht)]
 simp [execOp, hs.ev hx, hs.ev hy, eqGuard_at_pointer, h1]
end
end Go.Sx
end
section
namespace Go.Sx
open Go Go.RowKit
/-! Files and calls as data; what calls make of a tree. -/
instance instRpFile : Rp (ByteArray × List ByteArray) where
 Lay := Option Addr × Nat
 size := 2
 enc x y := [.string x.1, .slice y.1 x.2.length y.2]
 len _ _ := rfl
 one _ _ v hv := by
  simp only [List.mem_cons, List.mem_nil_iff, or_false] at hv;rcases hv with rfl | rfl <;> rfl
 asn x y := [slA y.1 x.2, nilA y, capA y.2 x.2.length]
def tAdd (T : List File) (k : ByteArray) : List File × Int := if nameOk k = false then (T, 20) else if hasT T k = true then (T, 21) else (putT T k [], 0)
def tRem (T : List File) (k : ByteArray) : List File × Int := if hasT T k = false then (T, 20) else if 0 < (getL T k).length then (T, 22) else (delT T k, 0)
def tMove (T : List File) (a b : ByteArray) : List File × Int := if hasT T a = false ∨ nameOk b = false then (T, 20) else if hasT T b = true then (T, 21) else (delT (putT T b (getL T a)) a, 0)
def tPut (T : List File) (k : ByteArray) (l : List ByteArray) : List File × Int := if hasT T k = false then (T, 20) else if l.all lineOk = false then (T, 1) else (putT T k l, 0)
def rMove (T : List File) (a b : ByteArray) : List File × Int := if hasT T a = false ∨ nameOk b = false then (T, 20) else if hasT T b = true then (T, 21) else (putT (delT T a) b (getL T a), 0)
theorem move_eq {T : List File} (h : Sor T) (a b : ByteArray) : tMove T a b = rMove T a b := by
 unfold tMove rMove
 split
 ·rfl
 ·rename_i h1
  split
  ·rfl
  ·rename_i h2
   have hne : b ≠ a := fun e => by
    subst e;exact h1 (.inl (by simpa using h2))
   rw [sor_ext ((h.put b _).del a) ((h.del a).put b _)];intro x;simp only [mem_delT, mem_putT];constructor
   ·rintro ⟨rfl | ⟨h3, h4⟩, h5⟩
    ·exact .inl rfl
    ·exact .inr ⟨⟨h3, h5⟩, h4⟩
   ·rintro (rfl | ⟨⟨h3, h5⟩, h4⟩)
    ·exact ⟨.inl rfl, hne⟩
    ·exact ⟨.inr ⟨h3, h4⟩, h5⟩
theorem putT_len (T : List File) (k : ByteArray) (l : List ByteArray) : (putT T k l).length ≤ T.length + 1 := by
 unfold putT;have h0 : (delT T k).length ≤ T.length := List.length_filter_le _ _;have h3 : ∀ D : List File, (D.filter fun x => decide (kl x.1 k)).length + (D.filter fun x => decide (kl k x.1)).length ≤ D.length := by
  intro D
  induction D with
  | nil => simp
  | cons x D ih =>
   by_cases h1 : kl x.1 k
   ·have h2 : ¬ kl k x.1 := fun h => kl_irrefl _ (kl_trans h1 h);simp only [List.filter_cons, h1, h2, decide_true, decide_false, if_true, if_false, List.length_cons];simp;omega
   ·by_cases h2 : kl k x.1
    ·simp [List.filter_cons, h1, h2]; omega
    ·simp [List.filter_cons, h1, h2]; omega
 have h5 := h3 (delT T k);rw [List.length_append, List.length_cons, ← Nat.add_assoc];exact Nat.succ_le_succ (Nat.le_trans h5 h0)
/-! taken one by one -/
theorem getT_take {T : List File} {k : ByteArray} {j : Nat} (hj : j < T.length) (h : getT (T.take j) k = none) : getT (T.take (j + 1)) k = if T[j].1 = k then some T[j].2 else none := by
 have h' : ∀ x ∈ T.take j, x.1 ≠ k := getT_none.1 h;rw [List.take_succ_eq_append_getElem hj];unfold getT;rw [List.find?_append, List.find?_eq_none.2 (by simpa using h')]
 by_cases e : T[j].1 = k <;> simp [List.find?_cons, e]
theorem getT_at {T : List File} {k : ByteArray} {j : Nat} (hj : j < T.length) (h : getT (T.take j) k = none) (e : T[j].1 = k) : getT T k = some T[j].2 := by
 have h' : ∀ x ∈ T.take j, x.1 ≠ k := getT_none.1 h;have e2 : T = T.take j ++ T[j] :: T.drop (j + 1) := by rw [← List.drop_eq_getElem_cons hj, List.take_append_drop]
 have e3 : ∀ (a : List File) (b : File) (c : List File), (∀ x ∈ a, x.1 ≠ k) → b.1 = k → getT (a ++ b :: c) k = some b.2 := by
  intro a b c h1 h2;unfold getT;rw [List.find?_append, List.find?_eq_none.2 (by simpa using h1)];simp [List.find?_cons, h2]
 have := e3 (T.take j) T[j] (T.drop (j + 1)) h' e;rw [← e2] at this;exact this
theorem delT_succ {T : List File} {k : ByteArray} {j : Nat} (hj : j < T.length) : delT (T.take (j + 1)) k = delT (T.take j) k ++ if T[j].1 = k then [] else [T[j]] := by
 unfold delT;rw [List.take_succ_eq_append_getElem hj, List.filter_append]
 by_cases e : T[j].1 = k <;> simp [List.filter_cons, e]
theorem filt_succ {p : File → Bool} {D : List File} {j : Nat} (hj : j < D.length) : (D.take (j + 1)).filter p = (D.take j).filter p ++ if p D[j] = true then [D[j]] else [] := by
 rw [List.take_succ_eq_append_getElem hj, List.filter_append]
 by_cases e : p D[j] = true <;> simp [List.filter_cons, e]
end Go.Sx
end
section
namespace Go.Proofs.YtbhnolfcdcpbkaaGreatDoor.X
open Go Go.RowKit Go.Proofs Go.Sx Go.Joins Go.ChangeShapes Go.WideShapes Go.Deep
section
variable {H : Type} {enc : TypeId × Value → H} {P : Program} {w : World}
theorem open_str_at {t : TypeId} {fuel : Nat} {cs : List Value} {x : DataW H × List MemPlace} (B : Bulk H) (ht : P.underlying t = some .string) (h : DataW.trod enc P w 0 (fun _ => true) true fuel t cs = some x) :
  ∃ (z : ByteArray) (y : Rp.Lay ByteArray), cs = Rp.enc z y ∧ (∀ a ∈ Rp.asn z y, a.p (fun _ => False) w) ∧ z.size + 1 ≤ B.one x.1 := by
 obtain ⟨s, rfl, e, _⟩ := DataW.trod_string ht h;refine ⟨s, (), rfl, fun a ha => (by cases ha), ?_⟩;rw [e];have e7 : s.data.toList.length = s.size := by rw [Array.length_toList]; rfl
 simp only [B.str];omega
theorem open_texts_at {t e : TypeId} {fuel : Nat} {v : Value} {x : DataW H × List MemPlace} (B : Bulk H) (h1 : B.one .nil = 1) (ht : P.underlying t = some (.slice e)) (he : P.underlying e = some .string) (hc : P.cellsOf e = 1) (h : DataW.trod enc P w 0 (fun _ => true) true fuel t [v] = some x) :
  ∃ (l : List ByteArray) (y : Option Addr × Nat), v = .slice y.1 l.length y.2 ∧ (slA y.1 l).p (fun _ => False) w ∧ l.length + sizes l + 1 ≤ B.one x.1 ∧ (y.1 = none → y.2 = 0) ∧ l.length ≤ y.2 := by
 obtain ⟨l, y, e1, g, _, cp, m, n⟩ := open_slice (α := ByteArray) B ht hc (by decide) ByteArray.size (fun n cs x hx => open_str_at B he hx) h;exact ⟨l, y, e1, g, m h1, n, cp⟩
structure OpTys (P : Program) (t : TypeId) : Prop where
 ex : ∃ (f0 f1 f2 f3 : Field) (es : TypeId), P.underlying t = some (.struct #[f0, f1, f2, f3]) ∧ oneCellFields P #[f0, f1, f2, f3] = true ∧ P.cellsOf t = 4 ∧
  P.underlying f0.type = some (.int .i64) ∧ P.underlying f1.type = some .string ∧ P.underlying f2.type = some .string ∧ P.underlying f3.type = some (.slice es) ∧ P.underlying es = some .string ∧ P.cellsOf es = 1
end
end Go.Proofs.YtbhnolfcdcpbkaaGreatDoor.X
end
section
namespace Go.Proofs.YtbhnolfcdcpbkaaGreatDoor.X
open Go Go.RowKit Go.Proofs Go.Sx Go.Joins Go.ChangeShapes Go.WideShapes Go.Deep
section
variable {H : Type} {enc : TypeId × Value → H} {P : Program} {w : World}
end
end Go.Proofs.YtbhnolfcdcpbkaaGreatDoor.X
end
section
namespace Go.Proofs.YtbhnolfcdcpbkaaGreatDoor.X
set_option maxRecDepth 100000
open Go Go.RowKit Go.Proofs Go.Sx
open Tryz
attribute [local irreducible] slA isA box row TrL TrC TrN TrA Pu OpR
set_option maxHeartbeats 8000000
theorem TryzX.mixed : Tryz.prog.follows .mixedOrders = true := by kernel_rfl
theorem c_Equal (l m : List ByteArray) (A B : Option Addr) (c c' : Nat) (hl : l.length ≤ 2000000) : Con Tryz.prog 132 [.slice A l.length c, .slice B m.length c'] [] [slA A l, slA B m] Unit (fun _ => .bool (decide (l = m))) (fun _ => []) (fun _ => []) := by
 refine con func132 rfl ntmps132 rfl ?_;intro M0 F0 w0;refine k_ 15 ?_;refine cc rfl ?_ ?_
 ·intro h10;(try simp only [nrmZ] at h10);refine k_ 7 ?_;refine rret (is := []) () (Or.inl rfl) (Res.t rfl Res.d) ?_ rfl Ω;simp [packV]; intro e; rw [e] at h10; exact h10 rfl
 ·intro h10;(try simp only [nrmZ] at h10);refine k_ 11 ?_;refine cl (ι := {k : Nat // k ≤ l.length ∧ l.take k = m.take k}) (fun i => St M0 F0 w0 26 [(0, .slice A l.length c), (1, .slice B m.length c'), (12, .int .i64 (l.length : Int)), (13, .int .i64 (i.1 : Int))] [] [slA A l, slA B m]) (fun i => l.length - i.1) ⟨0, by simp⟩ (wk0 Φ Ω) ?_;rintro ⟨k, hk, hkk⟩;refine cmono (S' := St M0 F0 w0 26 [(0, .slice A l.length c), (1, .slice B m.length c'), (12, .int .i64 (l.length : Int)), (13, .int .i64 (k : Int))] [] [slA A l, slA B m]) Ħ ?_;refine k_ 6 ?_;refine cc rfl ?_ ?_
  ·intro h14;(try simp only [nrmZ] at h14);have hk1 : k < l.length := (by omega);have hk2 : k < m.length := (by omega);refine k_ 11 ?_;refine elC Θ k (List.getElem?_eq_getElem (l := l) hk1) ?_; rintro zbp zop zyp hAp;refine elC Θ k (List.getElem?_eq_getElem (l := m) hk2) ?_; rintro zbq zoq zyq hAq;refine cd [] [(3, zbp, zop + k * Rp.size ByteArray, _), (7, zbq, zoq + k * Rp.size ByteArray, _)] TryzX.mixed (TOk.t (isInS Θ (k := 0) rfl (z := 1) Δ) (TOk.t (isInS Θ (k := 0) rfl (z := 1) Δ) TOk.d)) ?_;refine u_ 0 2 ?_;refine tk 2 rfl Ψ Υ gnone (TTany _) (p_ia k hAp hk1 rfl underlying73 sizeOf9 rfl rfl) rfl ?_;refine u_ 3 3 ?_;refine tk 6 rfl Ψ Υ gnone (TTany _) (p_ia k hAq hk2 rfl underlying73 sizeOf9 rfl rfl) rfl ?_;refine u_ 7 2 ?_;refine dn Ψ ?_;refine k_ 1 ?_;refine cc rfl ?_ ?_
   ·intro h24;(try simp only [nrmZ] at h24);refine k_ 7 ?_;refine rret (is := []) () (Or.inl rfl) (Res.t rfl Res.d) ?_ rfl Ω;simp [packV]; rintro rfl; exact h24 rfl
   ·intro h24;(try simp only [nrmZ] at h24);refine k_ 7 ?_;refine nnext ⟨k + 1, hk1, by rw [List.take_succ_eq_append_getElem hk1, List.take_succ_eq_append_getElem hk2, hkk, h24]⟩ (by dsimp only; omega) (wk0 Φ Ω)
  ·intro h14;(try simp only [nrmZ] at h14);refine k_ 12 ?_;refine rret (is := []) () (Or.inl rfl) (Res.t rfl Res.d) ?_ rfl Ω;simp [packV]; have := List.take_of_length_le (l := l) (i := k) (by omega); have := List.take_of_length_le (l := m) (i := k) (by omega); simp_all
theorem c_lineSame (l m : List ByteArray) (A B : Option Addr) (c c' : Nat) (hl : l.length ≤ 2000000) : Con Tryz.prog 76 [.slice A l.length c, .slice B m.length c'] [] [slA A l, slA B m] Unit (fun _ => .bool (decide (l = m))) (fun _ => []) (fun _ => []) := by
 refine con func76 rfl ntmps76 rfl ?_;intro M0 F0 w0;refine k_ 9 ?_;refine lC [] call132 (c_Equal l m A B c c' hl) ?_; intro x7;refine k_ 5 ?_;exact rR [] ()
theorem c_IndexFunc0 (l : List ByteArray) (A : Option Addr) (c : Nat) (hl : l.length ≤ 2000000) (f : ByteArray → Bool) (g : FuncId) (cap : List Value) (Γf : List Asn) (hcf : ∀ args w, (callFunc g args).run Tryz.prog w = .ok (.enter g args) w) (hg : ∀ s ∈ l, Con Tryz.prog g (.string s :: cap) [] Γf Unit (fun _ => .bool (f s)) (fun _ => []) (fun _ => [])) : Con Tryz.prog 220 [.slice A l.length c, .func (.func g) #[] cap.toArray] [] (slA A l :: Γf) {r : Int // -1 ≤ r ∧ r ≤ 2000000 ∧ (0 ≤ r ↔ l.any f = true)} (fun r => .int .i64 r.1) (fun _ => []) (fun _ => []) := by
 refine con func220 rfl ntmps220 rfl ?_;intro M0 F0 w0;refine k_ 14 ?_;refine cl (ι := {k : Nat // k ≤ l.length ∧ (l.take k).any f = false}) (fun i => St M0 F0 w0 19 [(0, .slice A l.length c), (1, .func (.func g) #[] cap.toArray), (7, .int .i64 (l.length : Int)), (8, .int .i64 (i.1 : Int))] [] (slA A l :: Γf)) (fun i => l.length - i.1) ⟨0, by simp⟩ (wk0 Φ Ω) ?_;rintro ⟨k, hk, hkk⟩;refine cmono (S' := St M0 F0 w0 19 [(0, .slice A l.length c), (1, .func (.func g) #[] cap.toArray), (7, .int .i64 (l.length : Int)), (8, .int .i64 (k : Int))] [] (slA A l :: Γf)) Ħ ?_;refine k_ 6 ?_;refine cc rfl ?_ ?_
 ·intro h9;(try simp only [nrmZ] at h9);have hk1 : k < l.length := (by omega);refine k_ 11 ?_;refine elC Θ k (List.getElem?_eq_getElem (l := l) hk1) ?_; rintro zbp zop zyp hAp;refine k_ 4 ?_;refine ls (op (p_ia k hAp hk1 rfl underlying73 sizeOf9 rfl rfl) rfl) ?_;refine ls (o_ldi isAgg9 rfl Θ 0 rfl Δ rfl) ?_;refine ls (o_callv (is := []) rfl hcf (hg _ (List.getElem_mem hk1)) rfl rfl rfl Ω rfl) ?_;refine le ?_; intro x16;refine k_ 2 ?_;refine cc rfl ?_ ?_
  ·intro h16;(try simp only [nrmZ] at h16);refine k_ 8 ?_;exact rR [] ⟨(k : Int), by omega, by omega, by simp only [List.any_eq_true]; exact ⟨fun _ => ⟨_, List.getElem_mem hk1, h16⟩, fun _ => by omega⟩⟩
  ·intro h16;(try simp only [nrmZ] at h16);refine k_ 7 ?_;refine nnext ⟨k + 1, hk1, by rw [List.take_succ_eq_append_getElem hk1, List.any_append, hkk]; simp [h16]⟩ (by dsimp only; omega) (wk0 Φ Ω)
 ·intro h9;(try simp only [nrmZ] at h9);refine k_ 12 ?_;exact rR [] ⟨-1, by omega, by omega, by rw [List.take_of_length_le (by omega)] at hkk; simp [hkk]⟩
theorem c_ContainsFunc0 (l : List ByteArray) (A : Option Addr) (c : Nat) (hl : l.length ≤ 2000000) (f : ByteArray → Bool) (g : FuncId) (cap : List Value) (Γf : List Asn) (hcf : ∀ args w, (callFunc g args).run Tryz.prog w = .ok (.enter g args) w) (hg : ∀ s ∈ l, Con Tryz.prog g (.string s :: cap) [] Γf Unit (fun _ => .bool (f s)) (fun _ => []) (fun _ => [])) : Con Tryz.prog 171 [.slice A l.length c, .func (.func g) #[] cap.toArray] [] (slA A l :: Γf) Unit (fun _ => .bool (l.any f)) (fun _ => []) (fun _ => []) := by
 refine con func171 rfl ntmps171 rfl ?_;intro M0 F0 w0;refine k_ 9 ?_;refine lC [] call220 (c_IndexFunc0 l A c hl f g cap Γf  hcf hg) ?_; rintro ⟨r, hr1, hr2, hr3⟩;refine k_ 6 ?_;refine rret (is := []) () (Or.inl rfl) (Res.t rfl Res.d) ?_ rfl Ω;simp [packV]; rw [Bool.eq_iff_iff]; simp [← hr3]
theorem c_IndexFunc1 (l : List ByteArray) (A : Option Addr) (c : Nat) (hl : l.length ≤ 2000000) (f : ByteArray → Bool) (g : FuncId) (cap : List Value) (Γf : List Asn) (x : Xsn) (hcf : ∀ args w, (callFunc g args).run Tryz.prog w = .ok (.enter g args) w) (hg : ∀ s ∈ l, Con Tryz.prog g (.string s :: cap) [x] Γf Unit (fun _ => .bool (f s)) (fun _ => [x]) (fun _ => [])) : Con Tryz.prog 220 [.slice A l.length c, .func (.func g) #[] cap.toArray] [x] (slA A l :: Γf) {r : Int // -1 ≤ r ∧ r ≤ 2000000 ∧ (0 ≤ r ↔ l.any f = true)} (fun r => .int .i64 r.1) (fun _ => [x]) (fun _ => []) := by
 refine con func220 rfl ntmps220 rfl ?_;intro M0 F0 w0;refine k_ 14 ?_;refine cl (ι := {k : Nat // k ≤ l.length ∧ (l.take k).any f = false}) (fun i => St M0 F0 w0 19 [(0, .slice A l.length c), (1, .func (.func g) #[] cap.toArray), (7, .int .i64 (l.length : Int)), (8, .int .i64 (i.1 : Int))] [x] (slA A l :: Γf)) (fun i => l.length - i.1) ⟨0, by simp⟩ (wk0 Φ Ω) ?_;rintro ⟨k, hk, hkk⟩;refine cmono (S' := St M0 F0 w0 19 [(0, .slice A l.length c), (1, .func (.func g) #[] cap.toArray), (7, .int .i64 (l.length : Int)), (8, .int .i64 (k : Int))] [x] (slA A l :: Γf)) Ħ ?_;refine k_ 6 ?_;refine cc rfl ?_ ?_
 ·intro h9;(try simp only [nrmZ] at h9);have hk1 : k < l.length := (by omega);refine k_ 11 ?_;refine elC Θ k (List.getElem?_eq_getElem (l := l) hk1) ?_; rintro zbp zop zyp hAp;refine k_ 4 ?_;refine ls (op (p_ia k hAp hk1 rfl underlying73 sizeOf9 rfl rfl) rfl) ?_;refine ls (o_ldi isAgg9 rfl Θ 0 rfl Δ rfl) ?_;refine ls (o_callv (is := [0]) rfl hcf (hg _ (List.getElem_mem hk1)) rfl rfl rfl Ω rfl) ?_;refine le ?_; intro x16;refine k_ 2 ?_;refine cc rfl ?_ ?_
  ·intro h16;(try simp only [nrmZ] at h16);refine k_ 8 ?_;exact rR [0] ⟨(k : Int), by omega, by omega, by simp only [List.any_eq_true]; exact ⟨fun _ => ⟨_, List.getElem_mem hk1, h16⟩, fun _ => by omega⟩⟩
  ·intro h16;(try simp only [nrmZ] at h16);refine k_ 7 ?_;refine nnext ⟨k + 1, hk1, by rw [List.take_succ_eq_append_getElem hk1, List.any_append, hkk]; simp [h16]⟩ (by dsimp only; omega) (wk0 Φ Ω)
 ·intro h9;(try simp only [nrmZ] at h9);refine k_ 12 ?_;exact rR [0] ⟨-1, by omega, by omega, by rw [List.take_of_length_le (by omega)] at hkk; simp [hkk]⟩
theorem c_ContainsFunc1 (l : List ByteArray) (A : Option Addr) (c : Nat) (hl : l.length ≤ 2000000) (f : ByteArray → Bool) (g : FuncId) (cap : List Value) (Γf : List Asn) (x : Xsn) (hcf : ∀ args w, (callFunc g args).run Tryz.prog w = .ok (.enter g args) w) (hg : ∀ s ∈ l, Con Tryz.prog g (.string s :: cap) [x] Γf Unit (fun _ => .bool (f s)) (fun _ => [x]) (fun _ => [])) : Con Tryz.prog 171 [.slice A l.length c, .func (.func g) #[] cap.toArray] [x] (slA A l :: Γf) Unit (fun _ => .bool (l.any f)) (fun _ => [x]) (fun _ => []) := by
 refine con func171 rfl ntmps171 rfl ?_;intro M0 F0 w0;refine k_ 9 ?_;refine lC [0] call220 (c_IndexFunc1 l A c hl f g cap Γf x hcf hg) ?_; rintro ⟨r, hr1, hr2, hr3⟩;refine k_ 6 ?_;refine rret (is := [0]) () (Or.inl rfl) (Res.t rfl Res.d) ?_ rfl Ω;simp [packV]; rw [Bool.eq_iff_iff]; simp [← hr3]
theorem c_Index (l : List ByteArray) (A : Option Addr) (c : Nat) (hl : l.length ≤ 2000000) (v : ByteArray) : Con Tryz.prog 221 [.slice A l.length c, .string v] [] [slA A l] {r : Int // -1 ≤ r ∧ r ≤ 2000000 ∧ (0 ≤ r ↔ v ∈ l)} (fun r => .int .i64 r.1) (fun _ => []) (fun _ => []) := by
 refine con func221 rfl ntmps221 rfl ?_;intro M0 F0 w0;refine k_ 14 ?_;refine cl (ι := {k : Nat // k ≤ l.length ∧ v ∉ l.take k}) (fun i => St M0 F0 w0 19 [(0, .slice A l.length c), (1, .string v), (7, .int .i64 (l.length : Int)), (8, .int .i64 (i.1 : Int))] [] [slA A l]) (fun i => l.length - i.1) ⟨0, by simp⟩ (wk0 Φ Ω) ?_;rintro ⟨k, hk, hkk⟩;refine cmono (S' := St M0 F0 w0 19 [(0, .slice A l.length c), (1, .string v), (7, .int .i64 (l.length : Int)), (8, .int .i64 (k : Int))] [] [slA A l]) Ħ ?_;refine k_ 6 ?_;refine cc rfl ?_ ?_
 ·intro h9;(try simp only [nrmZ] at h9);have hk1 : k < l.length := (by omega);refine k_ 11 ?_;refine elC Θ k (List.getElem?_eq_getElem (l := l) hk1) ?_; rintro zbp zop zyp hAp;refine k_ 4 ?_;refine ls (op (p_ia k hAp hk1 rfl underlying73 sizeOf9 rfl rfl) rfl) ?_;refine ls (o_ldi isAgg9 rfl Θ 0 rfl Δ rfl) ?_;refine k_ 3 ?_;refine cc rfl ?_ ?_
  ·intro h16;(try simp only [nrmZ] at h16);refine k_ 8 ?_;exact rR [] ⟨(k : Int), by omega, by omega, ⟨fun _ => h16 ▸ List.getElem_mem hk1, fun _ => by omega⟩⟩
  ·intro h16;(try simp only [nrmZ] at h16);refine k_ 7 ?_;refine nnext ⟨k + 1, hk1, by rw [List.take_succ_eq_append_getElem hk1, List.mem_append]; simp [h16, hkk]⟩ (by dsimp only; omega) (wk0 Φ Ω)
 ·intro h9;(try simp only [nrmZ] at h9);refine k_ 12 ?_;exact rR [] ⟨-1, by omega, by omega, by rw [List.take_of_length_le (by omega)] at hkk; simp [hkk]⟩
theorem c_Contains (l : List ByteArray) (A : Option Addr) (c : Nat) (hl : l.length ≤ 2000000) (v : ByteArray) : Con Tryz.prog 174 [.slice A l.length c, .string v] [] [slA A l] Unit (fun _ => .bool (l.any fun s => decide (s = v))) (fun _ => []) (fun _ => []) := by
 refine con func174 rfl ntmps174 rfl ?_;intro M0 F0 w0;refine k_ 9 ?_;refine lC [] call221 (c_Index l A c hl v) ?_; rintro ⟨r, hr1, hr2, hr3⟩;refine k_ 6 ?_;refine rret (is := []) () (Or.inl rfl) (Res.t rfl Res.d) ?_ rfl Ω;simp [packV]; rw [Bool.eq_iff_iff]; simp [hr3]
end Go.Proofs.YtbhnolfcdcpbkaaGreatDoor.X
end
section
namespace Go.Proofs
open Go.Shelf
def Tryz.lays160_ren : Go.Shelf.Ren := ⟨fun | 160 => 152 | 232 => 204 | 231 => 203 | 227 => 205 | 234 => 207 | 233 => 206 | 236 => 209 | 235 => 208 | 228 => 234 | 271 => 237 | 151 => 236 | 197 => 235 | 120 => 268 | 152 => 267 | 260 => 266 | 137 => 286 | 119 => 287 | 224 => 288 | 225 => 289 | 217 => 293 | 266 => 301 | n => n, fun | 9 => 9 | 4 => 4 | 3 => 3 | 5 => 5 | 117 => 269 | 116 => 268 | 0 => 0 | 124 => 272 | 21 => 21 | 105 => 299 | 46 => 279 | 119 => 342 | 139 => 345 | 138 => 344 | n => n, fun | 3 => 1 | 4 => 2 | n => n⟩
theorem Tryz.lays160 : Go.Proofs.Lays.n160 Tryz.prog Tryz.lays160_ren := {
 mixed := by kernel_rfl
 f119 := Tryz.func287.trans (congrArg some Ψ)
 f120 := Tryz.func268.trans (congrArg some Ψ)
 f137 := Tryz.func286.trans (congrArg some Ψ)
 f151 := Tryz.func236.trans (congrArg some Ψ)
 f152 := Tryz.func267.trans (congrArg some Ψ)
 f160 := Tryz.func152.trans (congrArg some Ψ)
 f197 := Tryz.func235.trans (congrArg some Ψ)
 f217 := Tryz.func293.trans (congrArg some Ψ)
 f224 := Tryz.func288.trans (congrArg some Ψ)
 f225 := Tryz.func289.trans (congrArg some Ψ)
 f227 := Tryz.func205.trans (congrArg some Ψ)
 f228 := Tryz.func234.trans (congrArg some Ψ)
 f231 := Tryz.func203.trans (congrArg some Ψ)
 f232 := Tryz.func204.trans (congrArg some Ψ)
 f233 := Tryz.func206.trans (congrArg some Ψ)
 f234 := Tryz.func207.trans (congrArg some Ψ)
 f235 := Tryz.func208.trans (congrArg some Ψ)
 f236 := Tryz.func209.trans (congrArg some Ψ)
 f260 := Tryz.func266.trans (congrArg some Ψ)
 f266 := Tryz.func301.trans (congrArg some Ψ)
 f271 := Tryz.func237.trans (congrArg some Ψ)
 t0 := Tryz.underlying0
 a0 := Tryz.isAgg0
 z0 := Tryz.sizeOf0
 v0 := Tryz.zeroValue0
 t3 := Tryz.underlying3
 a3 := Tryz.isAgg3
 z3 := Tryz.sizeOf3
 v3 := Tryz.zeroValue3
 t4 := Tryz.underlying4
 a4 := Tryz.isAgg4
 z4 := Tryz.sizeOf4
 v4 := Tryz.zeroValue4
 t5 := Tryz.underlying5
 a5 := Tryz.isAgg5
 z5 := Tryz.sizeOf5
 v5 := Tryz.zeroValue5
 t9 := Tryz.underlying9
 a9 := Tryz.isAgg9
 z9 := Tryz.sizeOf9
 v9 := Tryz.zeroValue9
 t21 := Tryz.underlying21
 a21 := Tryz.isAgg21
 z21 := Tryz.sizeOf21
 v21 := Tryz.zeroValue21
 t46 := Tryz.underlying279
 a46 := Tryz.isAgg279
 z46 := Tryz.sizeOf279
 v46 := Tryz.zeroValue279
 t105 := Tryz.underlying299
 a105 := Tryz.isAgg299
 z105 := Tryz.sizeOf299
 v105 := Tryz.zeroValue299
 t116 := Tryz.underlying268
 a116 := Tryz.isAgg268
 z116 := Tryz.sizeOf268
 t117 := Tryz.underlying269
 a117 := Tryz.isAgg269
 z117 := Tryz.sizeOf269
 v117 := Tryz.zeroValue269
 t119 := Tryz.underlying342
 a119 := Tryz.isAgg342
 z119 := Tryz.sizeOf342
 t124 := Tryz.underlying272
 a124 := Tryz.isAgg272
 z124 := Tryz.sizeOf272
 v124 := Tryz.zeroValue272
 t138 := Tryz.underlying344
 a138 := Tryz.isAgg344
 z138 := Tryz.sizeOf344
 v138 := Tryz.zeroValue344
 t139 := Tryz.underlying345
 a139 := Tryz.isAgg345
 z139 := Tryz.sizeOf345
 v139 := Tryz.zeroValue345
 g3 := by kernel_rfl
 g4 := by kernel_rfl }
def Tryz.lays171_ren : Go.Shelf.Ren := ⟨fun | 171 => 99 | 243 => 155 | 246 => 212 | 283 => 238 | 284 => 239 | 285 => 240 | 286 => 241 | 129 => 252 | 317 => 269 | 318 => 270 | 319 => 271 | 320 => 272 | 337 => 290 | 338 => 291 | n => n, fun | 3 => 3 | 9 => 9 | 2 => 2 | 4 => 4 | 171 => 302 | 0 => 0 | 53 => 303 | 37 => 160 | 5 => 5 | 173 => 306 | 212 => 332 | 51 => 317 | 20 => 20 | 213 => 333 | 46 => 279 | 232 => 355 | 233 => 356 | n => n, fun | 17 => 0 | 18 => 4 | 19 => 5 | n => n⟩
theorem Tryz.lays171 : Go.Proofs.Lays.n171 Tryz.prog Tryz.lays171_ren := {
 mixed := by kernel_rfl
 f129 := Tryz.func252.trans (congrArg some Ψ)
 f171 := Tryz.func99.trans (congrArg some Ψ)
 f243 := Tryz.func155.trans (congrArg some Ψ)
 f246 := Tryz.func212.trans (congrArg some Ψ)
 f283 := Tryz.func238.trans (congrArg some Ψ)
 f284 := Tryz.func239.trans (congrArg some Ψ)
 f285 := Tryz.func240.trans (congrArg some Ψ)
 f286 := Tryz.func241.trans (congrArg some Ψ)
 f317 := Tryz.func269.trans (congrArg some Ψ)
 f318 := Tryz.func270.trans (congrArg some Ψ)
 f319 := Tryz.func271.trans (congrArg some Ψ)
 f320 := Tryz.func272.trans (congrArg some Ψ)
 f337 := Tryz.func290.trans (congrArg some Ψ)
 f338 := Tryz.func291.trans (congrArg some Ψ)
 t0 := Tryz.underlying0
 a0 := Tryz.isAgg0
 z0 := Tryz.sizeOf0
 v0 := Tryz.zeroValue0
 t2 := Tryz.underlying2
 a2 := Tryz.isAgg2
 z2 := Tryz.sizeOf2
 v2 := Tryz.zeroValue2
 t3 := Tryz.underlying3
 a3 := Tryz.isAgg3
 z3 := Tryz.sizeOf3
 v3 := Tryz.zeroValue3
 t4 := Tryz.underlying4
 a4 := Tryz.isAgg4
 z4 := Tryz.sizeOf4
 v4 := Tryz.zeroValue4
 t5 := Tryz.underlying5
 a5 := Tryz.isAgg5
 z5 := Tryz.sizeOf5
 v5 := Tryz.zeroValue5
 t9 := Tryz.underlying9
 a9 := Tryz.isAgg9
 z9 := Tryz.sizeOf9
 v9 := Tryz.zeroValue9
 t20 := Tryz.underlying20
 a20 := Tryz.isAgg20
 z20 := Tryz.sizeOf20
 v20 := Tryz.zeroValue20
 t37 := Tryz.underlying160
 a37 := Tryz.isAgg160
 z37 := Tryz.sizeOf160
 v37 := Tryz.zeroValue160
 t46 := Tryz.underlying279
 a46 := Tryz.isAgg279
 z46 := Tryz.sizeOf279
 v46 := Tryz.zeroValue279
 t51 := Tryz.underlying317
 a51 := Tryz.isAgg317
 z51 := Tryz.sizeOf317
 v51 := Tryz.zeroValue317
 t53 := Tryz.underlying303
 a53 := Tryz.isAgg303
 z53 := Tryz.sizeOf303
 v53 := Tryz.zeroValue303
 t171 := Tryz.underlying302
 a171 := Tryz.isAgg302
 z171 := Tryz.sizeOf302
 v171 := Tryz.zeroValue302
 t173 := Tryz.underlying306
 a173 := Tryz.isAgg306
 z173 := Tryz.sizeOf306
 v173 := Tryz.zeroValue306
 t212 := Tryz.underlying332
 a212 := Tryz.isAgg332
 z212 := Tryz.sizeOf332
 v212 := Tryz.zeroValue332
 t213 := Tryz.underlying333
 a213 := Tryz.isAgg333
 z213 := Tryz.sizeOf333
 t232 := Tryz.underlying355
 a232 := Tryz.isAgg355
 z232 := Tryz.sizeOf355
 v232 := Tryz.zeroValue355
 t233 := Tryz.underlying356
 a233 := Tryz.isAgg356
 z233 := Tryz.sizeOf356
 v233 := Tryz.zeroValue356
 g17 := by kernel_rfl
 g18 := by kernel_rfl
 g19 := by kernel_rfl }
open Go.RowKit Go.Sort Go.Lib in
theorem Tryz.strconv_Itoa_small (i : Nat) (hi : i < 100) (w : World) :
  Calls Tryz.prog 99 #[.int .i64 i] w fun e w' => e = .returned (.string ⟨(Lib.decDigits i).toArray⟩) ∧ w' = w := Any.strconv_Itoa_small Tryz.lays171 i hi w
def Tryz.lays144_ren : Go.Shelf.Ren := ⟨fun | 144 => 216 | 143 => 253 | 219 => 279 | 217 => 293 | 225 => 289 | 224 => 288 | 267 => 294 | 266 => 301 | 314 => 302 | n => n, fun | 9 => 9 | 4 => 4 | 3 => 3 | 5 => 5 | 46 => 279 | 146 => 357 | 51 => 317 | n => n, fun | 1 => 3 | n => n⟩
theorem Tryz.lays144 : Go.Proofs.Lays.n144 Tryz.prog Tryz.lays144_ren := {
 mixed := by kernel_rfl
 f143 := Tryz.func253.trans (congrArg some Ψ)
 f144 := Tryz.func216.trans (congrArg some Ψ)
 f217 := Tryz.func293.trans (congrArg some Ψ)
 f219 := Tryz.func279.trans (congrArg some Ψ)
 f224 := Tryz.func288.trans (congrArg some Ψ)
 f225 := Tryz.func289.trans (congrArg some Ψ)
 f266 := Tryz.func301.trans (congrArg some Ψ)
 f267 := Tryz.func294.trans (congrArg some Ψ)
 f314 := Tryz.func302.trans (congrArg some Ψ)
 t3 := Tryz.underlying3
 a3 := Tryz.isAgg3
 z3 := Tryz.sizeOf3
 v3 := Tryz.zeroValue3
 t4 := Tryz.underlying4
 a4 := Tryz.isAgg4
 z4 := Tryz.sizeOf4
 v4 := Tryz.zeroValue4
 t5 := Tryz.underlying5
 a5 := Tryz.isAgg5
 z5 := Tryz.sizeOf5
 v5 := Tryz.zeroValue5
 t9 := Tryz.underlying9
 a9 := Tryz.isAgg9
 z9 := Tryz.sizeOf9
 v9 := Tryz.zeroValue9
 t46 := Tryz.underlying279
 a46 := Tryz.isAgg279
 z46 := Tryz.sizeOf279
 v46 := Tryz.zeroValue279
 t51 := Tryz.underlying317
 a51 := Tryz.isAgg317
 z51 := Tryz.sizeOf317
 v51 := Tryz.zeroValue317
 t146 := Tryz.underlying357
 a146 := Tryz.isAgg357
 z146 := Tryz.sizeOf357
 v146 := Tryz.zeroValue357
 g1 := by kernel_rfl }
open Go.RowKit Go.Lib in
theorem Tryz.strings_Contains_one (s : ByteArray) (c : UInt8) (w : World) :
  Calls Tryz.prog 216 #[.string s, .string ⟨#[c]⟩] w fun e w' => e = .returned (.bool (decide (0 ≤ Lib.indexByte s.data.toList c))) ∧ w' = w := Any.strings_Contains_one Tryz.lays144 s c w
def Tryz.lays190_ren : Go.Shelf.Ren := ⟨fun | 190 => 157 | 125 => 215 | 258 => 214 | 128 => 251 | 129 => 252 | 302 => 242 | 303 => 243 | 304 => 244 | 305 => 245 | 306 => 246 | 307 => 247 | 308 => 248 | 309 => 249 | 310 => 250 | 333 => 273 | 329 => 274 | 330 => 275 | 334 => 276 | 335 => 277 | 336 => 278 | 344 => 292 | n => n, fun | 31 => 73 | 9 => 9 | 3 => 3 | 46 => 279 | 0 => 0 | 51 => 317 | 53 => 303 | 4 => 4 | 183 => 310 | 182 => 309 | 131 => 314 | 5 => 5 | 218 => 334 | 222 => 338 | 228 => 348 | 229 => 349 | n => n, fun | n => n⟩
theorem Tryz.lays190 : Go.Proofs.Lays.n190 Tryz.prog Tryz.lays190_ren := {
 mixed := by kernel_rfl
 f125 := Tryz.func215.trans (congrArg some Ψ)
 f128 := Tryz.func251.trans (congrArg some Ψ)
 f129 := Tryz.func252.trans (congrArg some Ψ)
 f190 := Tryz.func157.trans (congrArg some Ψ)
 f258 := Tryz.func214.trans (congrArg some Ψ)
 f302 := Tryz.func242.trans (congrArg some Ψ)
 f303 := Tryz.func243.trans (congrArg some Ψ)
 f304 := Tryz.func244.trans (congrArg some Ψ)
 f305 := Tryz.func245.trans (congrArg some Ψ)
 f306 := Tryz.func246.trans (congrArg some Ψ)
 f307 := Tryz.func247.trans (congrArg some Ψ)
 f308 := Tryz.func248.trans (congrArg some Ψ)
 f309 := Tryz.func249.trans (congrArg some Ψ)
 f310 := Tryz.func250.trans (congrArg some Ψ)
 f329 := Tryz.func274.trans (congrArg some Ψ)
 f330 := Tryz.func275.trans (congrArg some Ψ)
 f333 := Tryz.func273.trans (congrArg some Ψ)
 f334 := Tryz.func276.trans (congrArg some Ψ)
 f335 := Tryz.func277.trans (congrArg some Ψ)
 f336 := Tryz.func278.trans (congrArg some Ψ)
 f344 := Tryz.func292.trans (congrArg some Ψ)
 t0 := Tryz.underlying0
 a0 := Tryz.isAgg0
 z0 := Tryz.sizeOf0
 v0 := Tryz.zeroValue0
 t3 := Tryz.underlying3
 a3 := Tryz.isAgg3
 z3 := Tryz.sizeOf3
 v3 := Tryz.zeroValue3
 t4 := Tryz.underlying4
 a4 := Tryz.isAgg4
 z4 := Tryz.sizeOf4
 v4 := Tryz.zeroValue4
 t5 := Tryz.underlying5
 a5 := Tryz.isAgg5
 z5 := Tryz.sizeOf5
 v5 := Tryz.zeroValue5
 t9 := Tryz.underlying9
 a9 := Tryz.isAgg9
 z9 := Tryz.sizeOf9
 v9 := Tryz.zeroValue9
 t31 := Tryz.underlying73
 a31 := Tryz.isAgg73
 z31 := Tryz.sizeOf73
 v31 := Tryz.zeroValue73
 t46 := Tryz.underlying279
 a46 := Tryz.isAgg279
 z46 := Tryz.sizeOf279
 v46 := Tryz.zeroValue279
 t51 := Tryz.underlying317
 a51 := Tryz.isAgg317
 z51 := Tryz.sizeOf317
 v51 := Tryz.zeroValue317
 t53 := Tryz.underlying303
 a53 := Tryz.isAgg303
 z53 := Tryz.sizeOf303
 v53 := Tryz.zeroValue303
 t131 := Tryz.underlying314
 a131 := Tryz.isAgg314
 z131 := Tryz.sizeOf314
 v131 := Tryz.zeroValue314
 t182 := Tryz.underlying309
 a182 := Tryz.isAgg309
 z182 := Tryz.sizeOf309
 v182 := Tryz.zeroValue309
 t183 := Tryz.underlying310
 a183 := Tryz.isAgg310
 z183 := Tryz.sizeOf310
 v183 := Tryz.zeroValue310
 t218 := Tryz.underlying334
 a218 := Tryz.isAgg334
 z218 := Tryz.sizeOf334
 v218 := Tryz.zeroValue334
 t222 := Tryz.underlying338
 a222 := Tryz.isAgg338
 z222 := Tryz.sizeOf338
 v222 := Tryz.zeroValue338
 t228 := Tryz.underlying348
 a228 := Tryz.isAgg348
 z228 := Tryz.sizeOf348
 v228 := Tryz.zeroValue348
 t229 := Tryz.underlying349
 a229 := Tryz.isAgg349
 z229 := Tryz.sizeOf349
 v229 := Tryz.zeroValue349 }
open Go.Sort Go.RowKit in
theorem Tryz.slices_Sort_string (blk off cap : Nat) (ss : List (List UInt8)) (w : World) (hH : Holds encStr w blk off ss.toArray) (hblk : blk < w.heap.size) (hsz : ss.length < 4611686018427387904) :
  Calls Tryz.prog 157 #[.slice (some ⟨blk, off, none⟩) ss.length cap] w fun e w' =>
   e = .returned (.tuple #[]) ∧ ∃ n os, w' = grow (putRow encStr (Sort.ahead w n) blk off (ss.mergeSort fun x y => decide (x ≤ y)).toArray) os := Any.slices_Sort_string Tryz.lays190 blk off cap ss w hH hblk hsz
open Go.RowKit Go.Sort in
theorem Tryz.slices_Sort_string_none (p : Option Addr) (cap : Nat) (w : World) :
  Calls Tryz.prog 157 #[.slice p 0 cap] w fun e w' => e = .returned (.tuple #[]) ∧ w' = w := Any.slices_Sort_string_none Tryz.lays190 p cap w
end Go.Proofs
end
section
namespace Go.Proofs.YtbhnolfcdcpbkaaGreatDoor.X
set_option maxRecDepth 100000
open Go Go.RowKit Go.Proofs Go.Sx
open Tryz
attribute [local irreducible] slA isA box row TrL TrC TrN TrA Pu OpR
set_option maxHeartbeats 8000000
open Go.Shelf
def alpha : ByteArray := ⟨#[97, 98, 99, 100, 101, 102, 103, 104, 105, 106, 107, 108, 109, 110, 111, 112, 113, 114, 115, 116, 117, 118, 119, 120, 121, 122, 48, 49, 50, 51, 52, 53, 54, 55, 56, 57, 46, 45, 95, 47]⟩
theorem alpha_nameB : ∀ b : UInt8, (ofB alpha).contains b = nameB b := fun b => by
 have h : ∀ n : Fin 256, (ofB alpha).contains (UInt8.ofFin n) = nameB (UInt8.ofFin n) := (by decide +kernel);exact h b.toFin
theorem l_Contains (s : ByteArray) : Con Tryz.prog 216 [.string s, .string ⟨#[10]⟩] [] [] Unit (fun _ => .bool ((ofB s).contains 10)) (fun _ => []) (fun _ => []) := by
 refine con_same fun w => ?_;have h := Tryz.strings_Contains_one s 10 w;have e : decide (0 ≤ Lib.indexByte s.data.toList 10) = (ofB s).contains 10 := (Lib.contains_iff_indexByte _ _).symm;rw [e] at h;exact h
theorem l_Trim (s : ByteArray) (hs : s.size ≤ 2000000) : Con Tryz.prog 152 [.string s, .string alpha] [] [] Unit (fun _ => .string ⟨(Lib.trimS (ofB s) (ofB alpha)).toArray⟩) (fun _ => []) (fun _ => []) := by
 refine con_below fun M0 w _ => ?_;exact Any.strings_Trim_laid lays160 Ψ s alpha w (by omega) (by decide) (ascii_of_all (by decide))
theorem trim_name (s : ByteArray) : decide ((⟨(Lib.trimS (ofB s) (ofB alpha)).toArray⟩ : ByteArray) = ⟨#[]⟩) = (ofB s).all nameB := by
 rw [Bool.eq_iff_iff, decide_eq_true_iff, List.all_eq_true];have : ((⟨(Lib.trimS (ofB s) (ofB alpha)).toArray⟩ : ByteArray) = ⟨#[]⟩) ↔ Lib.trimS (ofB s) (ofB alpha) = [] := by
  constructor
  ·intro h;have := congrArg (fun b : ByteArray => b.data.toList) h
   simpa using this
  ·intro h; rw [h]
 rw [this, trimS_nil];simp only [alpha_nameB]
theorem l_Sort (e : TypeId) (A : Option Addr) (c : Nat) (l : List ByteArray) (hl : l.length ≤ 2000000) : Con Tryz.prog 157 [.slice A l.length c] [row e A c l] [] Unit (fun _ => .tuple #[]) (fun _ => [row e A c (sortB l)]) (fun _ => []) :=
 con_sort e A c l hl (fun w => Tryz.slices_Sort_string_none none 0 w) (fun blk cap ss w h1 h2 h3 => Tryz.slices_Sort_string blk 0 cap ss w h1 h2 h3)
theorem c_lineRight (s : ByteArray) : Con Tryz.prog 160 [.string s] [] [] Unit (fun _ => .bool (lineOk s)) (fun _ => []) (fun _ => []) := by
 refine con func160 rfl ntmps160 rfl ?_;intro M0 F0 w0;refine k_ 11 ?_;refine andX 4 6 10 rfl (sL [2]) ?_ ?_
 ·intro h6;refine k_ 4 ?_;refine ln (nmid (wk0 Φ Ω))
 apply exI
 ·intro h6;refine k_ 1 ?_;refine lwant rfl rfl rfl rfl (o_call (is := []) call216 (l_Contains s) rfl rfl Ω rfl) ?_;refine le ?_; intro x8;refine k_ 2 ?_;refine ln (nmid (wk0 Φ Ω))
 ·
  refine k_ 5 ?_;exact rR [] ()
theorem c_lineAll1 (s : ByteArray) : Con Tryz.prog 230 [.string s] [] [] Unit (fun _ => .bool (!lineOk s)) (fun _ => []) (fun _ => []) := by
 refine con func230 rfl ntmps230 rfl ?_;intro M0 F0 w0;refine k_ 8 ?_;refine lC [] call160 (c_lineRight s) ?_; intro x4;refine k_ 6 ?_;exact rR [] ()
theorem c_lineAll (l : List ByteArray) (A : Option Addr) (c : Nat) (hl : l.length ≤ 2000000) : Con Tryz.prog 195 [.slice A l.length c] [] [slA A l] Unit (fun _ => .bool (l.all lineOk)) (fun _ => []) (fun _ => []) := by
 refine con func195 rfl ntmps195 rfl ?_;intro M0 F0 w0;refine k_ 8 ?_;refine lC [] call171 (c_ContainsFunc0 l A c hl (fun s => !lineOk s) 230 [] [] call230 (fun s _ => c_lineAll1 s)) ?_; intro x4;refine k_ 6 ?_;refine rret (is := []) () (Or.inl rfl) (Res.t rfl Res.d) ?_ rfl Ω;simp [packV, List.any_eq_not_all_not]
theorem c_treeNamed (s : ByteArray) : Con Tryz.prog 94 [.string s] [] [] Unit (fun _ => .bool (nameOk s)) (fun _ => []) (fun _ => []) := by
 refine con func94 rfl ntmps94 rfl ?_;intro M0 F0 w0;refine k_ 11 ?_;refine andX 4 6 10 rfl (sL [0, 2]) ?_ ?_
 ·intro h6;refine k_ 4 ?_;refine ln (nmid (wk0 Φ Ω))
 apply exI
 ·intro h6;refine k_ 4 ?_;refine ln (nmid (wk0 Φ Ω))
 ·
  refine k_ 1 ?_;refine andX 4 11 15 rfl (sL [2]) ?_ ?_
  ·intro h11;refine k_ 4 ?_;refine ln (nmid (wk0 Φ Ω))
  apply exI
  ·intro h11;refine k_ 1 ?_;refine lwant rfl rfl rfl rfl (o_call (is := []) call152 (l_Trim s (by simp only [Bool.and_eq_true, decide_eq_true_eq] at h11; omega)) rfl rfl Ω rfl) ?_;refine le ?_; intro x13;refine k_ 2 ?_;refine ln (nmid (wk0 Φ Ω))
  ·
   refine k_ 5 ?_;refine rret (is := []) () (Or.inl rfl) (Res.t rfl Res.d) ?_ rfl Ω;simp only [packV, nameOk, ← trim_name]
theorem c_primRight (p : Prim) (y : Rp.Lay Prim) (hp : p.fit) : Con Tryz.prog 142 [sv p y] [] (Rp.asn p y) Unit (fun _ => .bool (p.right)) (fun _ => []) (fun _ => []) := by
 refine con func142 rfl ntmps142 rfl ?_;intro M0 F0 w0;refine k_ 2 ?_;refine ls (o_box rfl rfl rfl) ?_;refine le ?_; intro b1;refine k_ 9 ?_;refine andX 5 7 12 rfl (sL [0, 1, 2]) ?_ ?_
 ·intro h7;refine k_ 5 ?_;refine ln (nmid (wk0 Φ Ω))
 apply exI
 ·intro h7;refine k_ 5 ?_;refine ln (nmid (wk0 Φ Ω))
 ·
  refine k_ 1 ?_;refine andX 5 13 18 rfl (sL [0, 1, 2]) ?_ ?_
  ·intro h13;refine k_ 5 ?_;refine ln (nmid (wk0 Φ Ω))
  apply exI
  ·intro h13;refine k_ 5 ?_;refine ln (nmid (wk0 Φ Ω))
  ·
   refine k_ 9 ?_;refine lC [] call94 (c_treeNamed _) ?_; intro x22;refine k_ 4 ?_;refine cc rfl ?_ ?_
   ·intro h19;(try simp only [nrmZ] at h19);refine k_ 7 ?_;refine rret (is := []) () (Or.inl rfl) (Res.t rfl Res.d) ?_ rfl Ω;simp [packV, Prim.right, Prim.bare, *]
   ·intro h19;(try simp only [nrmZ] at h19);refine k_ 8 ?_;refine cc rfl ?_ ?_
    ·intro h24;(try simp only [nrmZ] at h24);refine k_ 6 ?_;refine andX 4 31 35 rfl (sL [0, 1, 2, 18, 3, 20, 21, 22, 23, 19, 25, 26, 27, 24]) ?_ ?_
     ·intro h31;refine k_ 4 ?_;refine ln (nmid (wk0 Φ Ω))
     apply exI
     ·intro h31;refine k_ 4 ?_;refine ln (nmid (wk0 Φ Ω))
     ·
      refine k_ 1 ?_;refine andX 4 36 40 rfl (sL [0, 1, 2, 18, 3, 20, 21, 22, 23, 19, 25, 26, 27, 24]) ?_ ?_
      ·intro h36;refine k_ 4 ?_;refine ln (nmid (wk0 Φ Ω))
      apply exI
      ·intro h36;refine k_ 4 ?_;refine ln (nmid (wk0 Φ Ω))
      ·
       refine k_ 1 ?_;refine andX 4 41 45 rfl (sL [0, 1, 2, 18, 3, 20, 21, 22, 23, 19, 25, 26, 27, 24]) ?_ ?_
       ·intro h41;refine k_ 4 ?_;refine ln (nmid (wk0 Φ Ω))
       apply exI
       ·intro h41;refine k_ 2 ?_;refine lwant rfl rfl rfl rfl (o_call (is := []) call195 (c_lineAll p.old _ _ hp.o) rfl rfl Ω rfl) ?_;refine le ?_; intro x44;refine k_ 1 ?_;refine ln (nmid (wk0 Φ Ω))
       ·
        refine k_ 1 ?_;refine andX 4 46 50 rfl (sL [0, 1, 2, 18, 3, 20, 21, 22, 23, 19, 25, 26, 27, 24]) ?_ ?_
        ·intro h46;refine k_ 4 ?_;refine ln (nmid (wk0 Φ Ω))
        apply exI
        ·intro h46;refine k_ 2 ?_;refine lwant rfl rfl rfl rfl (o_call (is := []) call195 (c_lineAll p.new _ _ hp.n) rfl rfl Ω rfl) ?_;refine le ?_; intro x49;refine k_ 1 ?_;refine ln (nmid (wk0 Φ Ω))
        ·
         refine k_ 1 ?_;refine andX 7 51 58 rfl (sL [0, 1, 2, 18, 3, 20, 21, 22, 23, 19, 25, 26, 27, 24]) ?_ ?_
         ·intro h51;refine k_ 7 ?_;refine ln (nmid (wk0 Φ Ω))
         apply exI
         ·intro h51;refine k_ 4 ?_;refine lwant rfl rfl rfl rfl (o_call (is := []) call76 (c_lineSame p.old p.new _ _ _ _ hp.o) rfl rfl Ω rfl) ?_;refine le ?_; intro x56;refine k_ 2 ?_;refine ln (nmid (wk0 Φ Ω))
         ·
          refine k_ 5 ?_;refine rret (is := []) () (Or.inl rfl) (Res.t rfl Res.d) ?_ rfl Ω;simp [packV, Prim.right, Prim.bare, *]
    ·intro h24;(try simp only [nrmZ] at h24);refine k_ 8 ?_;refine cc rfl ?_ ?_
     ·intro h59;(try simp only [nrmZ] at h59);refine k_ 4 ?_;refine andX 4 64 68 rfl (sL [0, 1, 2, 18, 3, 20, 21, 22, 23, 19, 25, 26, 27, 24, 60, 61, 62, 59]) ?_ ?_
      ·intro h64;refine k_ 4 ?_;refine ln (nmid (wk0 Φ Ω))
      apply exI
      ·intro h64;refine k_ 2 ?_;refine lwant rfl rfl rfl rfl (o_call (is := []) call94 (c_treeNamed _) rfl rfl Ω rfl) ?_;refine le ?_; intro x67;refine k_ 1 ?_;refine ln (nmid (wk0 Φ Ω))
      ·
       refine k_ 1 ?_;refine andX 6 69 75 rfl (sL [0, 1, 2, 18, 3, 20, 21, 22, 23, 19, 25, 26, 27, 24, 60, 61, 62, 59]) ?_ ?_
       ·intro h69;refine k_ 6 ?_;refine ln (nmid (wk0 Φ Ω))
       apply exI
       ·intro h69;refine k_ 6 ?_;refine ln (nmid (wk0 Φ Ω))
       ·
        refine k_ 5 ?_;refine rret (is := []) () (Or.inl rfl) (Res.t rfl Res.d) ?_ rfl Ω;simp [packV, Prim.right, Prim.bare, *]
     ·intro h59;(try simp only [nrmZ] at h59);refine k_ 7 ?_;refine andX 4 77 81 rfl (sL [0, 1, 2, 18, 3, 20, 21, 22, 23, 19, 25, 26, 27, 24, 60, 61, 62, 59]) ?_ ?_
      ·intro h77;refine k_ 4 ?_;refine ln (nmid (wk0 Φ Ω))
      apply exI
      ·intro h77;refine k_ 4 ?_;refine ln (nmid (wk0 Φ Ω))
      ·
       refine k_ 1 ?_;refine andX 9 82 91 rfl (sL [0, 1, 2, 18, 3, 20, 21, 22, 23, 19, 25, 26, 27, 24, 60, 61, 62, 59]) ?_ ?_
       ·intro h82;refine k_ 9 ?_;refine ln (nmid (wk0 Φ Ω))
       apply exI
       ·intro h82;refine k_ 4 ?_;refine orX 4 86 90 rfl (sL [0, 1, 2, 18, 3, 20, 21, 22, 23, 19, 25, 26, 27, 24, 60, 61, 62, 59, 82]) ?_ ?_
        ·intro h86;refine k_ 4 ?_;refine ln (nmid (wk0 Φ Ω))
        apply exI
        ·intro h86;refine k_ 4 ?_;refine ln (nmid (wk0 Φ Ω))
        ·
         refine k_ 1 ?_;refine ln (nmid (wk0 Φ Ω))
       ·
        refine k_ 5 ?_;refine rret (is := []) () (Or.inl rfl) (Res.t rfl Res.d) ?_ rfl Ω;simp [packV, Prim.right, Prim.bare, *]
theorem dec_prim (p q : Prim) : (decide (p.kind = q.kind) && decide (p.name = q.name) && decide (p.to = q.to) && decide (p.pos = q.pos) && decide (p.old = q.old) && decide (p.new = q.new)) = decide (p = q) := by
 rw [Bool.eq_iff_iff];cases p; cases q;simp [and_assoc]
theorem inf9 : (Tryz.prog.info? 9).map (fun i => (i.zero, i.size, i.bytes)) = some (some (.string ⟨#[]⟩), 1, 16) := by kernel_rfl
theorem c_sClone (l : List ByteArray) (A : Option Addr) (c : Nat) (hl : l.length ≤ 2000000) : Con Tryz.prog 165 [.slice A l.length c] [] [slA A l] (Option Addr × Nat) (fun y => .slice y.1 l.length y.2) (fun _ => []) (fun y => [slA y.1 l]) := by
 refine con func165 rfl ntmps165 rfl ?_;intro M0 F0 w0;refine k_ 9 ?_;refine ls (op (p_slnil underlying73 rfl rfl) rfl) ?_;refine k_ 2 ?_;refine cc rfl ?_ ?_
 ·intro h4;have h5 : A = none := (by simpa using h4);refine cs ?_;subst h5;refine cmono (fun a w h => nil_len (l := l) (i := 0) At.z h) ?_;refine cf ?_; rintro rfl;refine k_ 6 ?_;exact rR [] (none, 0)
 ·intro h4;have h5 : ¬ A = none := (by intro e; rw [e] at h4; cases h4);refine k_ 4 ?_;refine ls (o_bsl ([] : List ByteArray) underlying73 sizeOf9 zeroValue9 rfl Enum.d RV.d rfl (by decide) (by decide) rfl) ?_;refine le ?_; intro b5;refine k_ 1 ?_;refine ls (o_app (is := [0]) underlying73 inf9 rfl (by decide) (by decide) rfl rfl (by simp; omega) (fun _ h => absurd h h5) rfl Ω rfl) ?_;refine le ?_; rintro ⟨A', c2⟩;refine lmono (fun a w h => Go.Sx.freeze (i := 0) rfl h) ?_;rw [List.nil_append];refine k_ 5 ?_;exact rR [] (A', c2)
theorem c_primClone (p : Prim) (y : Rp.Lay Prim) (hp : p.fit) : Con Tryz.prog 110 [sv p y] [] (Rp.asn p y) (Rp.Lay Prim) (fun y' => sv p y') (fun _ => []) (fun y' => Rp.asn p y') := by
 refine con func110 rfl ntmps110 rfl ?_;intro M0 F0 w0;refine k_ 2 ?_;refine ls (o_box rfl rfl rfl) ?_;refine le ?_; intro b1;refine ls (o_alloc zeroValue103 rfl rfl) ?_;refine le ?_; intro b2;refine k_ 3 ?_;refine cd [2, 5, 7, 9] [(1, b1, 4, _), (4, b1, 5, _)] TryzX.mixed (tB 1 (tB 1 TOk.d)) ?_;refine u_ 0 2 ?_;refine u_ 3 2 ?_;refine df 2 Ψ ?_;refine doR rfl (o_call (is := []) call165 (c_sClone p.old _ _ hp.o) rfl rfl Ω rfl) (TOk.x Ψ (TOk.t (isBoxE fun _ => isBoxS Θ (k := 1) Δ) TOk.d)) ?_;refine ea ?_; intro y1;refine u_ 6 1 ?_;refine df 5 Ψ ?_;refine doR rfl (o_call (is := []) call165 (c_sClone p.new _ _ hp.n) rfl rfl Ω rfl) tX ?_;refine ea ?_; intro y2;refine df 7 Ψ ?_;refine doR rfl (o_st rfl sizeOf73 rfl rfl rfl rfl rfl Θ Θ Θ) tX ?_;refine u_ 8 1 ?_;refine df 9 Ψ ?_;refine doR rfl (o_st rfl sizeOf73 rfl rfl rfl rfl rfl Θ Θ Θ) tX ?_;refine dn Ψ ?_;refine k_ 3 ?_;refine ls (o_ldw isAgg103 sizeOf103 rfl Θ (by rfl) rfl) ?_;refine k_ 5 ?_;refine rret (is := []) (y1, y2) (Or.inl rfl) (Res.c rfl isAgg103 sizeOf103 Θ (by rfl) Res.d) (rfl) rfl Ω
theorem meets_sort (p q : Prim) : ((sortB p.names).any fun s => (sortB q.names).any fun t => decide (t = s)) = p.meets q := by
 unfold Prim.meets;rw [any_perm (sortB_perm p.names)]
 congr 1
 funext s
 exact any_perm (sortB_perm q.names)
theorem c_primNames (p : Prim) (y : Rp.Lay Prim) : Con Tryz.prog 172 [sv p y] [] (Rp.asn p y) {x : List ByteArray × (Option Addr × Nat) // x.1 = sortB p.names} (fun x => .slice x.1.2.1 x.1.1.length x.1.2.2) (fun _ => []) (fun x => [slA x.1.2.1 x.1.1]) := by
 refine con func172 rfl ntmps172 rfl ?_;intro M0 F0 w0;refine k_ 2 ?_;refine ls (o_box rfl rfl rfl) ?_;refine le ?_; intro b1;refine k_ 7 ?_;refine ls (o_bsl [p.name] underlying73 sizeOf9 zeroValue9 rfl (Enum.t Enum.d) (RV.t () rfl Sub.d RV.d) rfl (by decide) (by decide) rfl) ?_;refine le ?_; intro b6;refine k_ 11 ?_;refine cc rfl ?_ ?_
 ·intro h9;(try simp only [nrmZ] at h9);refine k_ 4 ?_;refine ls (o_bsl [p.to] underlying73 sizeOf9 zeroValue9 rfl (Enum.t Enum.d) (RV.t () rfl Sub.d RV.d) rfl (by decide) (by decide) rfl) ?_;refine le ?_; intro b13;refine lmono (fun a w h => Go.Sx.freeze (i := 0) rfl h) ?_;refine ls (o_app (is := [0]) underlying73 inf9 rfl (by decide) (by decide) rfl rfl (by simp) (fun h => by cases h) rfl Ω rfl) ?_;refine le ?_; rintro ⟨A', c2⟩;refine k_ 6 ?_;refine lC [0] call157 (l_Sort 9 _ _ ([p.name] ++ [p.to]) (by simp)) ?_; intro x16;refine k_ 3 ?_;refine cmono (fun a w h => Go.Sx.freeze (i := 0) rfl h) ?_;refine k_ 7 ?_;refine rret (is := []) ⟨(sortB ([p.name] ++ [p.to]), A', c2), by rw [Prim.names, if_pos h9]; rfl⟩ (Or.inl rfl) (Res.t rfl Res.d) ?_ rfl Ω;simp only [packV, sortB_length]
 ·intro h9;(try simp only [nrmZ] at h9);refine k_ 5 ?_;refine lC [0] call157 (l_Sort 9 _ _ [p.name] (by simp)) ?_; intro x16;refine k_ 3 ?_;refine cmono (fun a w h => Go.Sx.freeze (i := 0) rfl h) ?_;refine k_ 7 ?_;refine rret (is := []) ⟨(sortB [p.name], some ⟨b6, 0, none⟩, 1), by rw [Prim.names, if_neg h9]⟩ (Or.inl rfl) (Res.t rfl Res.d) ?_ rfl Ω;simp only [packV, sortB_length]; rfl
theorem c_shares1 (q : Prim) (yq : Rp.Lay Prim) (b : Nat) (s : ByteArray) : Con Tryz.prog 304 [.string s, pT b] [box b 103 (Rp.enc q yq)] (Rp.asn q yq) Unit (fun _ => .bool ((sortB q.names).any fun t => decide (t = s))) (fun _ => [box b 103 (Rp.enc q yq)]) (fun _ => []) := by
 refine con func304 rfl ntmps304 rfl ?_;intro M0 F0 w0;refine k_ 7 ?_;refine ls (o_ldw isAgg103 sizeOf103 rfl Θ (by rfl) rfl) ?_;refine lC [] call172 (c_primNames q yq) ?_; rintro ⟨⟨l1, y1⟩, hl1⟩;obtain rfl : l1 = sortB q.names := hl1;refine k_ 1 ?_;refine lC [] call174 (c_Contains (sortB q.names) y1.1 y1.2 (by rw [sortB_length]; unfold Prim.names; split <;> simp) s) ?_; intro x7
 refine k_ 5 ?_;exact rR [0] ()
theorem c_shares (p q : Prim) (yp yq : Rp.Lay Prim) : Con Tryz.prog 296 [sv p yp, sv q yq] [] (Rp.asn p yp ++ Rp.asn q yq) Unit (fun _ => .bool (p.meets q)) (fun _ => []) (fun _ => []) := by
 refine con func296 rfl ntmps296 rfl ?_;intro M0 F0 w0;refine k_ 2 ?_;refine ls (o_box rfl rfl rfl) ?_;refine le ?_; intro b2;refine ls (o_box rfl rfl rfl) ?_;refine le ?_; intro b3;refine k_ 5 ?_;refine ls (o_ldw isAgg103 sizeOf103 rfl Θ (by rfl) rfl) ?_;refine lC [] call172 (c_primNames p yp) ?_; rintro ⟨⟨l1, y1⟩, hl1⟩;obtain rfl : l1 = sortB p.names := hl1;refine ls (op (p_mkf rfl) rfl) ?_;refine lC [0] call171 (c_ContainsFunc1 (sortB p.names) y1.1 y1.2 (by rw [sortB_length]; unfold Prim.names; split <;> simp) (fun s => (sortB q.names).any fun t => decide (t = s)) 304 [pT b3] (Rp.asn q yq) (box b3 103 (Rp.enc q yq)) call304 (fun s _ => c_shares1 q yq b3 s)) ?_; intro x8
 refine k_ 5 ?_;refine rret (is := []) () (Or.inl rfl) (Res.t rfl Res.d) ?_ rfl Ω;simp only [packV, meets_sort]
theorem c_grows (p : Prim) (y : Rp.Lay Prim) (hp : p.fit) : Con Tryz.prog 303 [sv p y] [] (Rp.asn p y) Unit (fun _ => .int .i64 ((p.new.length : Int) - p.old.length)) (fun _ => []) (fun _ => []) := by
 refine con func303 rfl ntmps303 rfl ?_;intro M0 F0 w0;refine k_ 2 ?_;refine ls (o_box rfl rfl rfl) ?_;refine le ?_; intro b1;refine k_ 11 ?_;have h1 := hp.o; have h2 := hp.n;refine k_ 6 ?_;exact rR [] ()
theorem c_hunks (p q : Prim) (yp yq : Rp.Lay Prim) (hp : p.fit) (hq : q.fit) (hpa : 0 ≤ p.pos ∧ p.pos ≤ 1048576) (hqa : 0 ≤ q.pos ∧ q.pos ≤ 1048576) : Con Tryz.prog 295 [sv p yp, sv q yq] [] (Rp.asn p yp ++ Rp.asn q yq) (Two (hunks p q)) (fun x => x.v) (fun _ => []) (fun x => x.g) := by
 refine con func295 rfl ntmps295 rfl ?_;intro M0 F0 w0;refine cs ?_;have hp1 := hp.o; have hp2 := hp.n; have hq1 := hq.o; have hq2 := hq.n;refine cr ?_;refine ls (o_box rfl rfl rfl) ?_;refine le ?_; intro b2;refine ls (o_box rfl rfl rfl) ?_;refine le ?_; intro b3;refine ls (o_alloc zeroValue103 rfl rfl) ?_;refine le ?_; intro b4;refine ls (o_alloc zeroValue103 rfl rfl) ?_;refine le ?_; intro b5;refine k_ 19 ?_;refine cc rfl ?_ ?_
 ·intro h9;(try simp only [nrmZ] at h9);refine cd [3, 6] [(1, b3, 3, _), (2, b2, 0, _)] TryzX.mixed (tB 1 (tB 6 TOk.d)) ?_;refine u_ 0 3 ?_;refine df 3 Ψ ?_;refine doR rfl (o_call (is := []) call303 (c_grows p yp hp) rfl rfl Ω rfl) (TOk.t (isBoxE fun _ => isBoxS Θ (k := 1) Δ) (TOk.x Ψ TOk.d)) ?_;refine ea ?_; intro x22;refine u_ 4 2 ?_;refine df 6 Ψ ?_;refine doR rfl (o_st rfl sizeOf3 rfl rfl rfl rfl rfl Θ Θ Θ) tX ?_;refine dn Ψ ?_;refine k_ 3 ?_;refine cd [2, 3] [(0, b3, 0, _), (1, b2, 0, _)] TryzX.mixed (tB 6 (tB 6 TOk.d)) ?_;refine u_ 0 2 ?_;refine df 2 Ψ ?_;refine doR rfl (o_st rfl sizeOf103 rfl rfl rfl rfl rfl Θ Θ Θ) (TOk.x Ψ (tB 6 TOk.d)) ?_;refine df 3 Ψ ?_;refine doR rfl (o_st rfl sizeOf103 rfl rfl rfl rfl rfl Θ Θ Θ) tX ?_;refine u_ 4 1 ?_;refine dn Ψ ?_;refine k_ 3 ?_;refine rret (is := []) ⟨(({ q with pos := q.pos - ((p.new.length : Int) - p.old.length) }, p, true), (yq, yp)), by rw [hunks, if_pos h9]⟩ (Or.inl rfl) (Res.c rfl isAgg103 sizeOf103 Θ (by rfl) (Res.c rfl isAgg103 sizeOf103 Θ (by rfl) (Res.t rfl Res.d))) (rfl) rfl Ω
 ·intro h9;(try simp only [nrmZ] at h9);refine k_ 14 ?_;refine cc rfl ?_ ?_
  ·intro h25;(try simp only [nrmZ] at h25);refine cd [3, 6] [(1, b2, 3, _), (2, b3, 0, _)] TryzX.mixed (tB 1 (tB 6 TOk.d)) ?_;refine u_ 0 3 ?_;refine df 3 Ψ ?_;refine doR rfl (o_call (is := []) call303 (c_grows q yq hq) rfl rfl Ω rfl) (TOk.t (isBoxE fun _ => isBoxS Θ (k := 1) Δ) (TOk.x Ψ TOk.d)) ?_;refine ea ?_; intro x38;refine u_ 4 2 ?_;refine df 6 Ψ ?_;refine doR rfl (o_st rfl sizeOf3 rfl rfl rfl rfl rfl Θ Θ Θ) tX ?_;refine dn Ψ ?_;refine k_ 3 ?_;refine cd [2, 3] [(0, b3, 0, _), (1, b2, 0, _)] TryzX.mixed (tB 6 (tB 6 TOk.d)) ?_;refine u_ 0 2 ?_;refine df 2 Ψ ?_;refine doR rfl (o_st rfl sizeOf103 rfl rfl rfl rfl rfl Θ Θ Θ) (TOk.x Ψ (tB 6 TOk.d)) ?_;refine df 3 Ψ ?_;refine doR rfl (o_st rfl sizeOf103 rfl rfl rfl rfl rfl Θ Θ Θ) tX ?_;refine u_ 4 1 ?_;refine dn Ψ ?_;refine k_ 3 ?_;refine rret (is := []) ⟨((q, { p with pos := p.pos + ((q.new.length : Int) - q.old.length) }, true), (yq, yp)), by rw [hunks, if_neg (by omega), if_pos h25]⟩ (Or.inl rfl) (Res.c rfl isAgg103 sizeOf103 Θ (by rfl) (Res.c rfl isAgg103 sizeOf103 Θ (by rfl) (Res.t rfl Res.d))) (rfl) rfl Ω
  ·intro h25;(try simp only [nrmZ] at h25);refine cs ?_;refine cd [2, 3] [(0, b2, 0, _), (1, b3, 0, _)] TryzX.mixed (tB 6 (tB 6 TOk.d)) ?_;refine u_ 0 2 ?_;refine df 2 Ψ ?_;refine doR rfl (o_st rfl sizeOf103 rfl rfl rfl rfl rfl Θ Θ Θ) (TOk.x Ψ (tB 6 TOk.d)) ?_;refine df 3 Ψ ?_;refine doR rfl (o_st rfl sizeOf103 rfl rfl rfl rfl rfl Θ Θ Θ) tX ?_;refine u_ 4 1 ?_;refine dn Ψ ?_;refine k_ 3 ?_;refine rret (is := []) ⟨((p, q, false), (yp, yq)), by rw [hunks, if_neg (by omega), if_neg (by omega)]⟩ (Or.inl rfl) (Res.c rfl isAgg103 sizeOf103 Θ (by rfl) (Res.c rfl isAgg103 sizeOf103 Θ (by rfl) (Res.t rfl Res.d))) (rfl) rfl Ω
theorem c_swapped (p q : Prim) (yp yq : Rp.Lay Prim) (hp : p.fit) (hq : q.fit) (hpr : p.right = true) (hqr : q.right = true) : Con Tryz.prog 280 [sv p yp, sv q yq] [] (Rp.asn p yp ++ Rp.asn q yq) (Two (swapped p q)) (fun x => x.v) (fun _ => []) (fun x => x.g) := by
 refine con func280 rfl ntmps280 rfl ?_;intro M0 F0 w0;refine k_ 2 ?_;refine ls (o_box rfl rfl rfl) ?_;refine le ?_; intro b2;refine ls (o_box rfl rfl rfl) ?_;refine le ?_; intro b3;refine ls (o_alloc zeroValue103 rfl rfl) ?_;refine le ?_; intro b4;refine ls (o_alloc zeroValue103 rfl rfl) ?_;refine le ?_; intro b5;refine k_ 10 ?_;refine ls (o_alloc zeroValue351 rfl rfl) ?_;refine le ?_; intro b7;refine k_ 7 ?_;refine ls (o_ldw isAgg351 sizeOf351 rfl Θ (by rfl) rfl) ?_;refine k_ 1 ?_;refine ls (op (p_aeq2 underlying351 underlying3 Ψ Ψ isAgg3 Ψ rfl rfl) rfl) ?_;refine k_ 3 ?_;refine cc rfl ?_ ?_
 ·intro h13;have h13' := h13; simp only [Bool.and_eq_true, decide_eq_true_eq] at h13';refine k_ 10 ?_;refine cc rfl ?_ ?_
  ·intro h21;(try simp only [nrmZ] at h21);refine k_ 2 ?_;refine ls (o_ldw isAgg103 sizeOf103 rfl Θ (by rfl) rfl) ?_;refine ls (o_ldw isAgg103 sizeOf103 rfl Θ (by rfl) rfl) ?_;refine lC [] call295 (c_hunks p q yp yq hp hq (right_pos hpr) (right_pos hqr)) ?_; rintro ⟨⟨⟨r1, r2, r3⟩, z1, z2⟩, hr⟩;refine k_ 10 ?_;refine rret (is := []) ⟨((r1, r2, r3), (z1, z2)), by rw [swapped, if_pos h13', if_pos h21]; exact hr⟩ (Or.inl rfl) (Res.c rfl isAgg103 sizeOf103 Θ (by rfl) (Res.c rfl isAgg103 sizeOf103 Θ (by rfl) (Res.t rfl Res.d))) (rfl) rfl Ω
  ·intro h21;(try simp only [nrmZ] at h21);refine k_ 3 ?_;refine cd [2, 3] [(0, b3, 0, _), (1, b2, 0, _)] TryzX.mixed (tB 6 (tB 6 TOk.d)) ?_;refine u_ 0 2 ?_;refine df 2 Ψ ?_;refine doR rfl (o_st rfl sizeOf103 rfl rfl rfl rfl rfl Θ Θ Θ) (TOk.x Ψ (tB 6 TOk.d)) ?_;refine df 3 Ψ ?_;refine doR rfl (o_st rfl sizeOf103 rfl rfl rfl rfl rfl Θ Θ Θ) tX ?_;refine u_ 4 1 ?_;refine dn Ψ ?_;refine k_ 3 ?_;refine rret (is := []) ⟨((q, p, true), (yq, yp)), by rw [swapped, if_pos h13', if_neg h21]⟩ (Or.inl rfl) (Res.c rfl isAgg103 sizeOf103 Θ (by rfl) (Res.c rfl isAgg103 sizeOf103 Θ (by rfl) (Res.t rfl Res.d))) (rfl) rfl Ω
 ·intro h13;have h13' : ¬ (p.kind = 0 ∧ q.kind = 0) := (by intro e; rw [e.1, e.2] at h13; exact absurd h13 (by decide));refine k_ 2 ?_;refine ls (o_ldw isAgg351 sizeOf351 rfl Θ (by rfl) rfl) ?_;refine k_ 1 ?_;refine ls (op (p_aeq2 underlying351 underlying3 Ψ Ψ isAgg3 Ψ rfl rfl) rfl) ?_;refine k_ 3 ?_;refine cc rfl ?_ ?_
  ·intro h30;have h30' := h30; simp only [Bool.and_eq_true, decide_eq_true_eq] at h30';refine k_ 10 ?_;refine cc rfl ?_ ?_
   ·intro h38;(try simp only [nrmZ] at h38);refine k_ 9 ?_;refine cd [2, 3] [(0, b3, 0, _), (1, b2, 0, _)] TryzX.mixed (tB 6 (tB 6 TOk.d)) ?_;refine u_ 0 2 ?_;refine df 2 Ψ ?_;refine doR rfl (o_st rfl sizeOf103 rfl rfl rfl rfl rfl Θ Θ Θ) (TOk.x Ψ (tB 6 TOk.d)) ?_;refine df 3 Ψ ?_;refine doR rfl (o_st rfl sizeOf103 rfl rfl rfl rfl rfl Θ Θ Θ) tX ?_;refine u_ 4 1 ?_;refine dn Ψ ?_;refine k_ 3 ?_;refine rret (is := []) ⟨((q, { p with name := q.to }, true), (yq, yp)), by rw [swapped, if_neg h13', if_pos h30', if_pos h38]⟩ (Or.inl rfl) (Res.c rfl isAgg103 sizeOf103 Θ (by rfl) (Res.c rfl isAgg103 sizeOf103 Θ (by rfl) (Res.t rfl Res.d))) (rfl) rfl Ω
   ·intro h38;(try simp only [nrmZ] at h38);refine k_ 3 ?_;refine cd [7, 8] [(0, b3, 0, _), (1, b2, 0, _), (3, b2, 1, _), (5, b3, 2, _)] TryzX.mixed (tB 6 (tB 6 (tB 1 (tB 1 TOk.d)))) ?_;refine u_ 0 7 ?_;refine df 7 Ψ ?_;refine doR rfl (o_st rfl sizeOf103 rfl rfl rfl rfl rfl Θ Θ Θ) (TOk.x Ψ (tB 6 (tB 1 (tB 1 TOk.d)))) ?_;refine df 8 Ψ ?_;refine doR rfl (o_st rfl sizeOf103 rfl rfl rfl rfl rfl Θ Θ Θ) (TOk.x Ψ (TOk.x Ψ (tB 1 (tB 1 TOk.d)))) ?_;refine u_ 9 1 ?_;refine dn Ψ ?_;refine k_ 3 ?_;refine rret (is := []) ⟨((q, p, !decide (p.name = q.to)), (yq, yp)), by rw [swapped, if_neg h13', if_pos h30', if_neg h38]⟩ (Or.inl rfl) (Res.c rfl isAgg103 sizeOf103 Θ (by rfl) (Res.c rfl isAgg103 sizeOf103 Θ (by rfl) (Res.t rfl Res.d))) (rfl) rfl Ω
  ·intro h30;have h30' : ¬ (p.kind = 0 ∧ q.kind = 3) := (by intro e; rw [e.1, e.2] at h30; exact absurd h30 (by decide));refine k_ 2 ?_;refine ls (o_ldw isAgg351 sizeOf351 rfl Θ (by rfl) rfl) ?_;refine k_ 1 ?_;refine ls (op (p_aeq2 underlying351 underlying3 Ψ Ψ isAgg3 Ψ rfl rfl) rfl) ?_;refine k_ 3 ?_;refine cc rfl ?_ ?_
   ·intro h51;have h51' := h51; simp only [Bool.and_eq_true, decide_eq_true_eq] at h51';refine k_ 10 ?_;refine cc rfl ?_ ?_
    ·intro h59;(try simp only [nrmZ] at h59);refine k_ 9 ?_;refine cd [2, 3] [(0, b3, 0, _), (1, b2, 0, _)] TryzX.mixed (tB 6 (tB 6 TOk.d)) ?_;refine u_ 0 2 ?_;refine df 2 Ψ ?_;refine doR rfl (o_st rfl sizeOf103 rfl rfl rfl rfl rfl Θ Θ Θ) (TOk.x Ψ (tB 6 TOk.d)) ?_;refine df 3 Ψ ?_;refine doR rfl (o_st rfl sizeOf103 rfl rfl rfl rfl rfl Θ Θ Θ) tX ?_;refine u_ 4 1 ?_;refine dn Ψ ?_;refine k_ 3 ?_;refine rret (is := []) ⟨(({ q with name := p.name }, p, true), (yq, yp)), by rw [swapped, if_neg h13', if_neg h30', if_pos h51', if_pos h59]⟩ (Or.inl rfl) (Res.c rfl isAgg103 sizeOf103 Θ (by rfl) (Res.c rfl isAgg103 sizeOf103 Θ (by rfl) (Res.t rfl Res.d))) (rfl) rfl Ω
    ·intro h59;(try simp only [nrmZ] at h59);refine k_ 3 ?_;refine cd [7, 8] [(0, b3, 0, _), (1, b2, 0, _), (3, b2, 1, _), (5, b3, 1, _)] TryzX.mixed (tB 6 (tB 6 (tB 1 (tB 1 TOk.d)))) ?_;refine u_ 0 7 ?_;refine df 7 Ψ ?_;refine doR rfl (o_st rfl sizeOf103 rfl rfl rfl rfl rfl Θ Θ Θ) (TOk.x Ψ (tB 6 (tB 1 (tB 1 TOk.d)))) ?_;refine df 8 Ψ ?_;refine doR rfl (o_st rfl sizeOf103 rfl rfl rfl rfl rfl Θ Θ Θ) (TOk.x Ψ (TOk.x Ψ (tB 1 (tB 1 TOk.d)))) ?_;refine u_ 9 1 ?_;refine dn Ψ ?_;refine k_ 3 ?_;refine rret (is := []) ⟨((q, p, !decide (p.name = q.name)), (yq, yp)), by rw [swapped, if_neg h13', if_neg h30', if_pos h51', if_neg h59]⟩ (Or.inl rfl) (Res.c rfl isAgg103 sizeOf103 Θ (by rfl) (Res.c rfl isAgg103 sizeOf103 Θ (by rfl) (Res.t rfl Res.d))) (rfl) rfl Ω
   ·intro h51;have h51' : ¬ (p.kind = 3 ∧ q.kind = 0) := (by intro e; rw [e.1, e.2] at h51; exact absurd h51 (by decide));refine k_ 4 ?_;refine cd [4, 6, 7] [(0, b3, 0, _), (1, b2, 0, _), (2, b2, 0, _), (3, b3, 0, _)] TryzX.mixed (tB 6 (tB 6 (tB 6 (tB 6 TOk.d)))) ?_;refine u_ 0 4 ?_;refine df 4 Ψ ?_;refine doR rfl (o_call (is := []) call296 (c_shares p q yp yq) rfl rfl Ω rfl) (TOk.t (isBoxE fun _ => isBoxS Θ (k := 6) Δ) (TOk.t (isBoxE fun _ => isBoxS Θ (k := 6) Δ) (TOk.x Ψ (TOk.x Ψ TOk.d)))) ?_;refine ea ?_; intro x76;refine u_ 5 1 ?_;refine df 6 Ψ ?_;refine doR rfl (o_st rfl sizeOf103 rfl rfl rfl rfl rfl Θ Θ Θ) (TOk.x Ψ (tB 6 (TOk.x Ψ (TOk.x Ψ TOk.d)))) ?_;refine df 7 Ψ ?_;refine doR rfl (o_st rfl sizeOf103 rfl rfl rfl rfl rfl Θ Θ Θ) tX ?_;refine u_ 8 1 ?_;refine dn Ψ ?_;refine k_ 3 ?_;refine rret (is := []) ⟨((q, p, !p.meets q), (yq, yp)), by rw [swapped, if_neg h13', if_neg h30', if_neg h51']⟩ (Or.inl rfl) (Res.c rfl isAgg103 sizeOf103 Θ (by rfl) (Res.c rfl isAgg103 sizeOf103 Θ (by rfl) (Res.t rfl Res.d))) (rfl) rfl Ω
theorem c_Swap (p q : Prim) (yp yq : Rp.Lay Prim) (hp : p.fit) (hq : q.fit) : Con Tryz.prog 255 [sv p yp, sv q yq] [] (Rp.asn p yp ++ Rp.asn q yq) (Two (swap p q)) (fun x => x.v) (fun _ => []) (fun x => x.g) := by
 refine con func255 rfl ntmps255 rfl ?_;intro M0 F0 w0;refine k_ 2 ?_;refine ls (o_box rfl rfl rfl) ?_;refine le ?_; intro b2;refine ls (o_box rfl rfl rfl) ?_;refine le ?_; intro b3;refine ls (o_alloc zeroValue103 rfl rfl) ?_;refine le ?_; intro b4;refine ls (o_alloc zeroValue103 rfl rfl) ?_;refine le ?_; intro b5;refine k_ 6 ?_;refine ls (o_ldw isAgg103 sizeOf103 rfl Θ (by rfl) rfl) ?_;refine lC [] call142 (c_primRight p yp hp) ?_; intro x8;refine k_ 1 ?_;refine andX 3 9 12 rfl (sL [0, 1, 2, 3, 4, 5, 6]) ?_ ?_
 ·intro h9;refine k_ 3 ?_;refine ln (nmid (wk0 Φ Ω))
 apply exI
 ·intro h9;refine lwant rfl rfl rfl rfl (o_ldw isAgg103 sizeOf103 rfl Θ (by rfl) rfl) ?_;refine lwant rfl rfl rfl rfl (o_call (is := []) call142 (c_primRight q yq hq) rfl rfl Ω rfl) ?_;refine le ?_; intro x11;refine k_ 1 ?_;refine ln (nmid (wk0 Φ Ω))
 ·
  refine k_ 2 ?_;refine cc rfl ?_ ?_
  ·intro h12;have h12' := h12; simp only [Bool.and_eq_true, decide_eq_true_eq] at h12';refine cr ?_;refine ls (o_ldw isAgg103 sizeOf103 rfl Θ (by rfl) rfl) ?_;refine ls (o_ldw isAgg103 sizeOf103 rfl Θ (by rfl) rfl) ?_;refine lC [] call280 (c_swapped p q yp yq hp hq h12'.1 h12'.2) ?_; rintro ⟨⟨⟨r1, r2, r3⟩, z1, z2⟩, hr⟩;obtain ⟨hf1, hf2⟩ := swapped_fit hp hq; rw [← hr] at hf1 hf2; dsimp only at hr hf1 hf2;refine k_ 15 ?_;refine orX 4 22 26 rfl (sL [0, 1, 2, 3, 4, 5, 6, 12, 14, 15, 16, 13, 17, 18, 19]) ?_ ?_
   ·intro h22;refine k_ 4 ?_;refine ln (nmid (wk0 Φ Ω))
   apply exI
   ·intro h22;refine lwant rfl rfl rfl rfl (o_ldw isAgg103 sizeOf103 rfl Θ (by rfl) rfl) ?_;refine lwant rfl rfl rfl rfl (o_call (is := []) call142 (c_primRight r1 z1 hf1) rfl rfl Ω rfl) ?_;refine le ?_; intro x24;refine k_ 2 ?_;refine ln (nmid (wk0 Φ Ω))
   ·
    refine k_ 1 ?_;refine orX 4 27 31 rfl (sL [0, 1, 2, 3, 4, 5, 6, 12, 14, 15, 16, 13, 17, 18, 19]) ?_ ?_
    ·intro h27;refine k_ 4 ?_;refine ln (nmid (wk0 Φ Ω))
    apply exI
    ·intro h27;refine lwant rfl rfl rfl rfl (o_ldw isAgg103 sizeOf103 rfl Θ (by rfl) rfl) ?_;refine lwant rfl rfl rfl rfl (o_call (is := []) call142 (c_primRight r2 z2 hf2) rfl rfl Ω rfl) ?_;refine le ?_; intro x29;refine k_ 2 ?_;refine ln (nmid (wk0 Φ Ω))
    ·
     refine k_ 2 ?_;refine cc rfl ?_ ?_
     ·intro h31;dsimp only at h31;refine cs ?_;refine cmono (fun a w h => nilSl (α := ByteArray) h) ?_;refine k_ 10 ?_;refine rret (is := []) ⟨((Prim.zero, Prim.zero, false), (((none, 0), (none, 0)), ((none, 0), (none, 0)))), by rw [swap, ← hr]; cases r3 <;> cases e1 : r1.right <;> cases e2 : r2.right <;> simp_all⟩ (Or.inl rfl) (Res.c rfl isAgg103 sizeOf103 Θ (by rfl) (Res.c rfl isAgg103 sizeOf103 Θ (by rfl) (Res.t rfl Res.d))) (rfl) rfl Ω
     ·intro h31;dsimp only at h31;refine k_ 3 ?_;refine cd [1, 3, 4, 5] [(0, b4, 0, _), (2, b5, 0, _)] TryzX.mixed (tB 6 (tB 6 TOk.d)) ?_;refine u_ 0 1 ?_;refine u_ 2 1 ?_;refine df 1 Ψ ?_;refine doR rfl (o_call (is := []) call110 (c_primClone r1 z1 hf1) rfl rfl Ω rfl) (TOk.x Ψ (TOk.t (isBoxE fun _ => isBoxS Θ (k := 6) Δ) TOk.d)) ?_;refine ea ?_; intro y1;refine df 3 Ψ ?_;refine doR rfl (o_call (is := []) call110 (c_primClone r2 z2 hf2) rfl rfl Ω rfl) tX ?_;refine ea ?_; intro y2;refine df 4 Ψ ?_;refine doR rfl (o_st rfl sizeOf103 rfl rfl rfl rfl rfl Θ Θ Θ) tX ?_;refine df 5 Ψ ?_;refine doR rfl (o_st rfl sizeOf103 rfl rfl rfl rfl rfl Θ Θ Θ) tX ?_;refine u_ 6 1 ?_;refine dn Ψ ?_;refine k_ 3 ?_;refine rret (is := []) ⟨((r1, r2, true), (y1, y2)), by rw [swap, ← hr]; cases r3 <;> cases e1 : r1.right <;> cases e2 : r2.right <;> simp_all⟩ (Or.inl rfl) (Res.c rfl isAgg103 sizeOf103 Θ (by rfl) (Res.c rfl isAgg103 sizeOf103 Θ (by rfl) (Res.t rfl Res.d))) (rfl) rfl Ω
  ·intro h12;have h12' : (p.right && q.right) = false := h12;refine k_ 19 ?_;refine cc rfl (fun h => ?_) (fun h => by cases h);refine cs ?_;refine cmono (fun a w h => nilSl (α := ByteArray) h) ?_;refine k_ 10 ?_;refine rret (is := []) ⟨((Prim.zero, Prim.zero, false), (((none, 0), (none, 0)), ((none, 0), (none, 0)))), by rw [swap, h12']; rfl⟩ (Or.inl rfl) (Res.c rfl isAgg103 sizeOf103 Θ (by rfl) (Res.c rfl isAgg103 sizeOf103 Θ (by rfl) (Res.t rfl Res.d))) (rfl) rfl Ω
theorem byteAt_eq (s : ByteArray) (k : Nat) (h : k < (ofB s).length) : byteAt s k = ((ofB s)[k]).toNat := by
 unfold byteAt;rw [List.getD_eq_getElem?_getD, List.getElem?_eq_getElem (show k < s.data.toList.length from h)]
 rfl
theorem take_no10 {l : List UInt8} {k : Nat} (hk : k < l.length) (h : (l.take k).contains 10 = false) (hn : ¬ l[k].toNat = 10) : (l.take (k + 1)).contains 10 = false := by
 rw [List.take_succ_eq_append_getElem hk];simp only [List.contains_eq_mem, List.mem_append, List.mem_singleton, decide_eq_false_iff_not, not_or] at h ⊢;exact ⟨h, fun e => hn (by rw [← e]; rfl)⟩
theorem has10 {l : List UInt8} {k : Nat} (hk : k < l.length) (hn : l[k].toNat = 10) : l.contains 10 = true := by
 have e : l[k] = 10 := UInt8.toNat_inj.1 hn;simp only [List.contains_eq_mem, decide_eq_true_eq];rw [← e];exact List.getElem_mem hk
theorem all_not {α : Type} {f : α → Bool} {l : List α} {x : α} (h : x ∈ l) (hf : f x = false) : l.all f = false := by
 rw [List.all_eq_false];exact ⟨x, h, by simp [hf]⟩
theorem named_byte {b : UInt8} {c : Nat} (h : c = b.toNat) : (!(decide ((97 : Int) ≤ (c : Int)) && decide ((c : Int) ≤ 122)) && !(decide ((48 : Int) ≤ (c : Int)) && decide ((c : Int) ≤ 57)) && !decide ((c : Int) = 46) && !decide ((c : Int) = 45) && !decide ((c : Int) = 95) && !decide ((c : Int) = 47)) = !nameB b := by
 subst h;unfold nameB;rw [Bool.eq_iff_iff];simp;omega
theorem c_refLine (s : ByteArray) (hs : s.size ≤ 2000000) : Con Tryz.prog 166 [.string s] [] [] Unit (fun _ => .bool (lineOk s)) (fun _ => []) (fun _ => []) := by
 refine con func166 rfl ntmps166 rfl ?_;intro M0 F0 w0;refine k_ 12 ?_;refine cl (ι := {k : Nat // k ≤ s.size ∧ ((ofB s).take k).contains 10 = false}) (fun i => St M0 F0 w0 17 [(0, .string s), (3, .int .i64 (i.1 : Int))] [] []) (fun i => s.size - i.1) ⟨0, by simp⟩ (wk0 Φ Ω) ?_;rintro ⟨k, hk, hkk⟩;refine cmono (S' := St M0 F0 w0 17 [(0, .string s), (3, .int .i64 (k : Int))] [] []) Ħ ?_;refine k_ 9 ?_;refine cc rfl ?_ ?_
 ·intro h7;(try simp only [nrmZ] at h7);have hk1 : k < s.size := (by omega);have hk2 : k < (ofB s).length := hk1;have hb := byteAt_eq s k hk2;refine k_ 8 ?_;refine ls (op (p_idxs k hk1 rfl underlying9 rfl rfl) rfl) ?_;refine k_ 3 ?_;refine cc rfl ?_ ?_
  ·intro h13;(try simp only [nrmZ] at h13);refine k_ 7 ?_;refine rret (is := []) () (Or.inl rfl) (Res.t rfl Res.d) ?_ rfl Ω;simp only [packV, lineOk]; rw [has10 hk2 (by omega)]; simp
  ·intro h13;(try simp only [nrmZ] at h13);refine k_ 8 ?_;refine nnext ⟨k + 1, hk1, take_no10 hk2 hkk (by omega)⟩ (by dsimp only; omega) (wk0 Φ Ω)
 ·intro h7;(try simp only [nrmZ] at h7);refine k_ 15 ?_;refine rret (is := []) () (Or.inl rfl) (Res.t rfl Res.d) ?_ rfl Ω;simp only [packV, lineOk]; rw [List.take_of_length_le (by show s.size ≤ k; omega)] at hkk; rw [hkk]; simp
theorem c_refAll (l : List ByteArray) (A : Option Addr) (c : Nat) (hl : l.length ≤ 2000000) (hs : ∀ s ∈ l, s.size ≤ 2000000) : Con Tryz.prog 167 [.slice A l.length c] [] [slA A l] Unit (fun _ => .bool (l.all lineOk)) (fun _ => []) (fun _ => []) := by
 refine con func167 rfl ntmps167 rfl ?_;intro M0 F0 w0;refine k_ 12 ?_;refine cl (ι := {k : Nat // k ≤ l.length ∧ (l.take k).all lineOk = true}) (fun i => St M0 F0 w0 16 [(0, .slice A l.length c), (3, .int .i64 (i.1 : Int))] [] [slA A l]) (fun i => l.length - i.1) ⟨0, by simp⟩ (wk0 Φ Ω) ?_;rintro ⟨k, hk, hkk⟩;refine cmono (S' := St M0 F0 w0 16 [(0, .slice A l.length c), (3, .int .i64 (k : Int))] [] [slA A l]) Ħ ?_;refine k_ 9 ?_;refine cc rfl ?_ ?_
 ·intro h7;(try simp only [nrmZ] at h7);have hk1 : k < l.length := (by omega);refine k_ 5 ?_;refine elC Θ k (List.getElem?_eq_getElem (l := l) hk1) ?_; rintro zbp zop zyp hAp;refine k_ 3 ?_;refine ls (op (p_ia k hAp hk1 rfl underlying73 sizeOf9 rfl rfl) rfl) ?_;refine ls (o_ldi isAgg9 rfl Θ 0 rfl Δ rfl) ?_;refine lC [] call166 (c_refLine _ (hs _ (List.getElem_mem hk1))) ?_; intro x14;refine k_ 3 ?_;refine cc rfl ?_ ?_
  ·intro h15;(try simp only [nrmZ] at h15);refine k_ 7 ?_;refine rret (is := []) () (Or.inl rfl) (Res.t rfl Res.d) ?_ rfl Ω;simp only [packV]; rw [all_not (List.getElem_mem hk1) h15]
  ·intro h15;(try simp only [nrmZ] at h15);refine k_ 8 ?_;refine nnext ⟨k + 1, hk1, by rw [List.take_succ_eq_append_getElem hk1, List.all_append, hkk]; simp [h15]⟩ (by dsimp only; omega) (wk0 Φ Ω)
 ·intro h7;(try simp only [nrmZ] at h7);refine k_ 12 ?_;refine rret (is := []) () (Or.inl rfl) (Res.t rfl Res.d) ?_ rfl Ω;simp only [packV]; rw [List.take_of_length_le (by omega)] at hkk; rw [hkk]
theorem c_refSame1 (l m : List ByteArray) (A B : Option Addr) (c c' : Nat) (hl : l.length ≤ 2000000) : Con Tryz.prog 115 [.slice A l.length c, .slice B m.length c'] [] [slA A l, slA B m] Unit (fun _ => .bool (decide (l = m))) (fun _ => []) (fun _ => []) := by
 refine con func115 rfl ntmps115 rfl ?_;intro M0 F0 w0;refine k_ 15 ?_;refine cc rfl ?_ ?_
 ·intro h10;(try simp only [nrmZ] at h10);refine k_ 7 ?_;refine rret (is := []) () (Or.inl rfl) (Res.t rfl Res.d) ?_ rfl Ω;simp [packV]; intro e; rw [e] at h10; exact h10 rfl
 ·intro h10;(try simp only [nrmZ] at h10);refine k_ 9 ?_;refine cl (ι := {k : Nat // k ≤ l.length ∧ l.take k = m.take k}) (fun i => St M0 F0 w0 26 [(0, .slice A l.length c), (1, .slice B m.length c'), (5, .int .i64 (i.1 : Int))] [] [slA A l, slA B m]) (fun i => l.length - i.1) ⟨0, by simp⟩ (wk0 Φ Ω) ?_;rintro ⟨k, hk, hkk⟩;refine cmono (S' := St M0 F0 w0 26 [(0, .slice A l.length c), (1, .slice B m.length c'), (5, .int .i64 (k : Int))] [] [slA A l, slA B m]) Ħ ?_;refine k_ 9 ?_;refine cc rfl ?_ ?_
  ·intro h14;(try simp only [nrmZ] at h14);have hk1 : k < l.length := (by omega);have hk2 : k < m.length := (by omega);refine k_ 5 ?_;refine elC Θ k (List.getElem?_eq_getElem (l := l) hk1) ?_; rintro zbp zop zyp hAp;refine elC Θ k (List.getElem?_eq_getElem (l := m) hk2) ?_; rintro zbq zoq zyq hAq;refine cd [] [(3, zbp, zop + k * Rp.size ByteArray, _), (7, zbq, zoq + k * Rp.size ByteArray, _)] TryzX.mixed (TOk.t (isInS Θ (k := 0) rfl (z := 1) Δ) (TOk.t (isInS Θ (k := 0) rfl (z := 1) Δ) TOk.d)) ?_;refine u_ 0 2 ?_;refine tk 2 rfl Ψ Υ gnone (TTany _) (p_ia k hAp hk1 rfl underlying73 sizeOf9 rfl rfl) rfl ?_;refine u_ 3 3 ?_;refine tk 6 rfl Ψ Υ gnone (TTany _) (p_ia k hAq hk2 rfl underlying73 sizeOf9 rfl rfl) rfl ?_;refine u_ 7 2 ?_;refine dn Ψ ?_;refine k_ 1 ?_;refine cc rfl ?_ ?_
   ·intro h25;(try simp only [nrmZ] at h25);refine k_ 7 ?_;refine rret (is := []) () (Or.inl rfl) (Res.t rfl Res.d) ?_ rfl Ω;simp [packV]; rintro rfl; exact h25 rfl
   ·intro h25;(try simp only [nrmZ] at h25);refine k_ 8 ?_;refine nnext ⟨k + 1, hk1, by rw [List.take_succ_eq_append_getElem hk1, List.take_succ_eq_append_getElem hk2, hkk, h25]⟩ (by dsimp only; omega) (wk0 Φ Ω)
  ·intro h14;(try simp only [nrmZ] at h14);refine k_ 12 ?_;refine rret (is := []) () (Or.inl rfl) (Res.t rfl Res.d) ?_ rfl Ω;simp [packV]; have := List.take_of_length_le (l := l) (i := k) (by omega); have := List.take_of_length_le (l := m) (i := k) (by omega); simp_all
theorem c_refNamed (s : ByteArray) (hs : s.size ≤ 2000000) : Con Tryz.prog 61 [.string s] [] [] Unit (fun _ => .bool (nameOk s)) (fun _ => []) (fun _ => []) := by
 refine con func61 rfl ntmps61 rfl ?_;intro M0 F0 w0;refine k_ 12 ?_;refine cl (ι := {k : Nat // k ≤ s.size ∧ ((ofB s).take k).all nameB = true}) (fun i => St M0 F0 w0 54 [(0, .string s), (3, .int .i64 (i.1 : Int))] [] []) (fun i => s.size - i.1) ⟨0, by simp⟩ (wk0 Φ Ω) ?_;rintro ⟨k, hk, hkk⟩;refine cmono (S' := St M0 F0 w0 54 [(0, .string s), (3, .int .i64 (k : Int))] [] []) Ħ ?_;refine k_ 9 ?_;refine cc rfl ?_ ?_
 ·intro h8;(try simp only [nrmZ] at h8);have hk1 : k < s.size := (by omega);have hk2 : k < (ofB s).length := hk1;have hb := byteAt_eq s k hk2;refine k_ 8 ?_;refine ls (op (p_idxs k hk1 rfl underlying9 rfl rfl) rfl) ?_;refine k_ 8 ?_;refine andX 3 16 19 rfl (sL [0, 3, 5, 6, 7, 8, 11, 12, 13, 4]) ?_ ?_
  ·intro h16;refine k_ 3 ?_;refine ln (nmid (wk0 Φ Ω))
  apply exI
  ·intro h16;refine k_ 3 ?_;refine ln (nmid (wk0 Φ Ω))
  ·
   refine k_ 2 ?_;refine andX 8 21 29 rfl (sL [0, 3, 5, 6, 7, 8, 11, 12, 13, 4]) ?_ ?_
   ·intro h21;refine k_ 8 ?_;refine ln (nmid (wk0 Φ Ω))
   apply exI
   ·intro h21;refine k_ 3 ?_;refine andX 3 24 27 rfl (sL [0, 3, 5, 6, 7, 8, 11, 12, 13, 4, 21]) ?_ ?_
    ·intro h24;refine k_ 3 ?_;refine ln (nmid (wk0 Φ Ω))
    apply exI
    ·intro h24;refine k_ 3 ?_;refine ln (nmid (wk0 Φ Ω))
    ·
     refine k_ 2 ?_;refine ln (nmid (wk0 Φ Ω))
   ·
    refine k_ 1 ?_;refine andX 3 30 33 rfl (sL [0, 3, 5, 6, 7, 8, 11, 12, 13, 4]) ?_ ?_
    ·intro h30;refine k_ 3 ?_;refine ln (nmid (wk0 Φ Ω))
    apply exI
    ·intro h30;refine k_ 3 ?_;refine ln (nmid (wk0 Φ Ω))
    ·
     refine k_ 1 ?_;refine andX 3 34 37 rfl (sL [0, 3, 5, 6, 7, 8, 11, 12, 13, 4]) ?_ ?_
     ·intro h34;refine k_ 3 ?_;refine ln (nmid (wk0 Φ Ω))
     apply exI
     ·intro h34;refine k_ 3 ?_;refine ln (nmid (wk0 Φ Ω))
     ·
      refine k_ 1 ?_;refine andX 3 38 41 rfl (sL [0, 3, 5, 6, 7, 8, 11, 12, 13, 4]) ?_ ?_
      ·intro h38;refine k_ 3 ?_;refine ln (nmid (wk0 Φ Ω))
      apply exI
      ·intro h38;refine k_ 3 ?_;refine ln (nmid (wk0 Φ Ω))
      ·
       refine k_ 1 ?_;refine andX 3 42 45 rfl (sL [0, 3, 5, 6, 7, 8, 11, 12, 13]) ?_ ?_
       ·intro h42;refine k_ 3 ?_;refine ln (nmid (wk0 Φ Ω))
       apply exI
       ·intro h42;refine k_ 3 ?_;refine ln (nmid (wk0 Φ Ω))
       ·
        refine k_ 2 ?_;refine cc rfl ?_ ?_
        ·intro h45;have h46 := named_byte hb ▸ h45;refine k_ 7 ?_;refine rret (is := []) () (Or.inl rfl) (Res.t rfl Res.d) ?_ rfl Ω;simp only [packV, nameOk]; rw [all_not (List.getElem_mem hk2) (by simpa using h46)]; simp
        ·intro h45;have h46 := named_byte hb ▸ h45;refine k_ 8 ?_;refine nnext ⟨k + 1, hk1, by rw [List.take_succ_eq_append_getElem hk2, List.all_append, hkk]; simpa using h46⟩ (by dsimp only; omega) (wk0 Φ Ω)
 ·intro h8;(try simp only [nrmZ] at h8);refine k_ 11 ?_;refine andX 4 49 53 rfl (sL [0, 3, 5, 6, 7, 8]) ?_ ?_
  ·intro h49;refine k_ 4 ?_;refine ln (nmid (wk0 Φ Ω))
  apply exI
  ·intro h49;refine k_ 4 ?_;refine ln (nmid (wk0 Φ Ω))
  ·
   refine k_ 5 ?_;refine rret (is := []) () (Or.inl rfl) (Res.t rfl Res.d) ?_ rfl Ω;simp only [packV, nameOk]; rw [List.take_of_length_le (by show s.size ≤ k; omega)] at hkk; rw [hkk]; simp
theorem refNames_len (p : Prim) : (refNames p).length ≤ 2 := by
 unfold refNames
 by_cases h : p.kind = 3
 ·by_cases h' : Op.bytesLess p.name.toList p.to.toList = true <;> simp [h, h']
 ·simp [h]
theorem any_two {la lb : List ByteArray} {a b : ByteArray} (ha : a ∈ la) (hb : b ∈ lb) (h : a = b) : (la.any fun s => lb.any fun t => decide (s = t)) = true := by
 rw [List.any_eq_true];exact ⟨a, ha, by rw [List.any_eq_true]; exact ⟨b, hb, by simp [h]⟩⟩
theorem c_refRight (p : Prim) (y : Rp.Lay Prim) (hp : p.fit) : Con Tryz.prog 114 [sv p y] [] (Rp.asn p y) Unit (fun _ => .bool (p.right)) (fun _ => []) (fun _ => []) := by
 refine con func114 rfl ntmps114 rfl ?_;intro M0 F0 w0;refine k_ 2 ?_;refine ls (o_box rfl rfl rfl) ?_;refine le ?_; intro b1;refine k_ 8 ?_;refine lC [] call61 (c_refNamed _ hp.a) ?_; intro x5;refine k_ 2 ?_;refine orX 4 7 11 rfl (sL [0, 1, 2]) ?_ ?_
 ·intro h7;refine k_ 4 ?_;refine ln (nmid (wk0 Φ Ω))
 apply exI
 ·intro h7;refine k_ 4 ?_;refine ln (nmid (wk0 Φ Ω))
 ·
  refine k_ 1 ?_;refine orX 4 12 16 rfl (sL [0, 1, 2]) ?_ ?_
  ·intro h12;refine k_ 4 ?_;refine ln (nmid (wk0 Φ Ω))
  apply exI
  ·intro h12;refine k_ 4 ?_;refine ln (nmid (wk0 Φ Ω))
  ·
   refine k_ 2 ?_;refine cc rfl ?_ ?_
   ·intro h16
    skip
    refine k_ 7 ?_;refine rret (is := []) () (Or.inl rfl) (Res.t rfl Res.d) ?_ rfl Ω;rw [← refRight_eq, refRight, if_pos h16]; rfl
   ·intro h16;have h16' := Bool.eq_false_iff.1 h16;refine k_ 10 ?_;refine cc rfl ?_ ?_
    ·intro h19;(try simp only [nrmZ] at h19);refine k_ 7 ?_;refine orX 4 23 27 rfl (sL [0, 1, 2, 16, 17, 18, 19]) ?_ ?_
     ·intro h23;refine k_ 4 ?_;refine ln (nmid (wk0 Φ Ω))
     apply exI
     ·intro h23;refine k_ 4 ?_;refine ln (nmid (wk0 Φ Ω))
     ·
      refine k_ 1 ?_;refine orX 4 28 32 rfl (sL [0, 1, 2, 16, 17, 18, 19]) ?_ ?_
      ·intro h28;refine k_ 4 ?_;refine ln (nmid (wk0 Φ Ω))
      apply exI
      ·intro h28;refine k_ 4 ?_;refine ln (nmid (wk0 Φ Ω))
      ·
       refine k_ 2 ?_;refine cc rfl ?_ ?_
       ·intro h32
        skip
        refine k_ 7 ?_;refine rret (is := []) () (Or.inl rfl) (Res.t rfl Res.d) ?_ rfl Ω;rw [← refRight_eq, refRight, if_neg h16', if_pos h19, if_pos h32]; rfl
       ·intro h32;have h32' := Bool.eq_false_iff.1 h32;refine k_ 6 ?_;refine lC [] call167 (c_refAll p.old _ _ hp.o hp.os) ?_; intro x35;refine k_ 1 ?_;refine andX 4 36 40 rfl (sL [0, 1, 2, 16, 17, 18, 19, 32]) ?_ ?_
        ·intro h36;refine k_ 4 ?_;refine ln (nmid (wk0 Φ Ω))
        apply exI
        ·intro h36;refine k_ 2 ?_;refine lwant rfl rfl rfl rfl (o_call (is := []) call167 (c_refAll p.new _ _ hp.n hp.ns) rfl rfl Ω rfl) ?_;refine le ?_; intro x39;refine k_ 1 ?_;refine ln (nmid (wk0 Φ Ω))
        ·
         refine k_ 1 ?_;refine andX 7 41 48 rfl (sL [0, 1, 2, 16, 17, 18, 19, 32]) ?_ ?_
         ·intro h41;refine k_ 7 ?_;refine ln (nmid (wk0 Φ Ω))
         apply exI
         ·intro h41;refine k_ 4 ?_;refine lwant rfl rfl rfl rfl (o_call (is := []) call115 (c_refSame1 p.old p.new _ _ _ _ hp.o) rfl rfl Ω rfl) ?_;refine le ?_; intro x46;refine k_ 2 ?_;refine ln (nmid (wk0 Φ Ω))
         ·
          refine k_ 5 ?_;refine rret (is := []) () (Or.inl rfl) (Res.t rfl Res.d) ?_ rfl Ω;rw [← refRight_eq, refRight, if_neg h16', if_pos h19, if_neg h32']; rfl
    ·intro h19;(try simp only [nrmZ] at h19);refine k_ 9 ?_;refine orX 5 52 57 rfl (sL [0, 1, 2, 16, 17, 18, 19]) ?_ ?_
     ·intro h52;refine k_ 5 ?_;refine ln (nmid (wk0 Φ Ω))
     apply exI
     ·intro h52;refine k_ 5 ?_;refine ln (nmid (wk0 Φ Ω))
     ·
      refine k_ 1 ?_;refine orX 5 58 63 rfl (sL [0, 1, 2, 16, 17, 18, 19]) ?_ ?_
      ·intro h58;refine k_ 5 ?_;refine ln (nmid (wk0 Φ Ω))
      apply exI
      ·intro h58;refine k_ 5 ?_;refine ln (nmid (wk0 Φ Ω))
      ·
       refine k_ 2 ?_;refine cc rfl ?_ ?_
       ·intro h63
        skip
        refine k_ 7 ?_;refine rret (is := []) () (Or.inl rfl) (Res.t rfl Res.d) ?_ rfl Ω;rw [← refRight_eq, refRight, if_neg h16', if_neg h19, if_pos h63]; rfl
       ·intro h63;have h63' := Bool.eq_false_iff.1 h63;refine k_ 10 ?_;refine cc rfl ?_ ?_
        ·intro h66;(try simp only [nrmZ] at h66);refine k_ 4 ?_;refine lC [] call61 (c_refNamed _ hp.b) ?_; intro x69;refine k_ 1 ?_;refine andX 6 70 76 rfl (sL [0, 1, 2, 16, 17, 18, 19, 63, 64, 65, 66]) ?_ ?_
         ·intro h70;refine k_ 6 ?_;refine ln (nmid (wk0 Φ Ω))
         apply exI
         ·intro h70;refine k_ 6 ?_;refine ln (nmid (wk0 Φ Ω))
         ·
          refine k_ 5 ?_;refine rret (is := []) () (Or.inl rfl) (Res.t rfl Res.d) ?_ rfl Ω;rw [← refRight_eq, refRight, if_neg h16', if_neg h19, if_neg h63', if_pos h66]; rfl
        ·intro h66;(try simp only [nrmZ] at h66);refine k_ 12 ?_;refine rret (is := []) () (Or.inl rfl) (Res.t rfl Res.d) ?_ rfl Ω;rw [← refRight_eq, refRight, if_neg h16', if_neg h19, if_neg h63', if_neg h66]; rfl
theorem c_refNames (p : Prim) (y : Rp.Lay Prim) : Con Tryz.prog 226 [sv p y] [] (Rp.asn p y) {x : List ByteArray × (Option Addr × Nat) // x.1 = refNames p} (fun x => .slice x.1.2.1 x.1.1.length x.1.2.2) (fun _ => []) (fun x => [slA x.1.2.1 x.1.1]) := by
 refine con func226 rfl ntmps226 rfl ?_;intro M0 F0 w0;refine k_ 2 ?_;refine ls (o_box rfl rfl rfl) ?_;refine le ?_; intro b1;refine k_ 11 ?_;refine cc rfl ?_ ?_
 ·intro h5;have h5' : ¬ p.kind = 3 := (by simpa using h5);refine k_ 4 ?_;refine ls (o_bsl [p.name] underlying73 sizeOf9 zeroValue9 rfl (Enum.t Enum.d) (RV.t () rfl Sub.d RV.d) rfl (by decide) (by decide) rfl) ?_;refine le ?_; intro b8;refine lmono (fun a w h => Go.Sx.freeze (i := 0) rfl h) ?_;refine k_ 5 ?_;exact rR [] ⟨([p.name], some ⟨b8, 0, none⟩, 1), by rw [refNames, if_neg h5']⟩
 ·intro h5;have h5' : p.kind = 3 := (by simpa using h5);refine k_ 9 ?_;refine ls (op (p_slt rfl rfl) rfl) ?_;refine k_ 2 ?_;refine cc rfl ?_ ?_
  ·intro h13
   skip
   refine k_ 6 ?_;refine ls (o_bsl [p.name, p.to] underlying73 sizeOf9 zeroValue9 rfl (Enum.t (Enum.t Enum.d)) (RV.t () rfl Sub.d (RV.t () rfl Sub.d RV.d)) rfl (by decide) (by decide) rfl) ?_;refine le ?_; intro b18;refine lmono (fun a w h => Go.Sx.freeze (i := 0) rfl h) ?_;refine k_ 5 ?_;exact rR [] ⟨([p.name, p.to], some ⟨b18, 0, none⟩, 2), by rw [refNames, if_pos h5', if_pos h13]⟩
  ·intro h13;have h13' := Bool.eq_false_iff.1 h13;refine k_ 8 ?_;refine ls (o_bsl [p.to, p.name] underlying73 sizeOf9 zeroValue9 rfl (Enum.t (Enum.t Enum.d)) (RV.t () rfl Sub.d (RV.t () rfl Sub.d RV.d)) rfl (by decide) (by decide) rfl) ?_;refine le ?_; intro b23;refine lmono (fun a w h => Go.Sx.freeze (i := 0) rfl h) ?_;refine k_ 5 ?_;exact rR [] ⟨([p.to, p.name], some ⟨b23, 0, none⟩, 2), by rw [refNames, if_pos h5', if_neg h13']⟩
theorem c_refAt (p : Prim) (y : Rp.Lay Prim) (k : Int) : Con Tryz.prog 298 [sv p y, .int .i64 k] [] [] Unit (fun _ => sv { p with pos := k } y) (fun _ => []) (fun _ => []) := by
 refine con func298 rfl ntmps298 rfl ?_;intro M0 F0 w0;refine k_ 2 ?_;refine ls (o_box rfl rfl rfl) ?_;refine le ?_; intro b2;refine ls (o_alloc zeroValue101 rfl rfl) ?_;refine le ?_; intro b4;refine k_ 11 ?_;refine ls (o_ldw isAgg101 sizeOf101 rfl Θ (by rfl) rfl) ?_;refine k_ 5 ?_;refine rret (is := []) () (Or.inl rfl) (Res.c rfl isAgg101 sizeOf101 Θ (by rfl) Res.d) (rfl) rfl Ω
theorem c_refIn (p : Prim) (y : Rp.Lay Prim) (s : ByteArray) : Con Tryz.prog 299 [sv p y, .string s] [] [] Unit (fun _ => sv { p with name := s } y) (fun _ => []) (fun _ => []) := by
 refine con func299 rfl ntmps299 rfl ?_;intro M0 F0 w0;refine k_ 2 ?_;refine ls (o_box rfl rfl rfl) ?_;refine le ?_; intro b2;refine ls (o_alloc zeroValue101 rfl rfl) ?_;refine le ?_; intro b4;refine k_ 11 ?_;refine ls (o_ldw isAgg101 sizeOf101 rfl Θ (by rfl) rfl) ?_;refine k_ 5 ?_;refine rret (is := []) () (Or.inl rfl) (Res.c rfl isAgg101 sizeOf101 Θ (by rfl) Res.d) (rfl) rfl Ω
theorem c_refCommon (p q : Prim) (yp yq : Rp.Lay Prim) : Con Tryz.prog 300 [sv p yp, sv q yq] [] (Rp.asn p yp ++ Rp.asn q yq) Unit (fun _ => .bool (p.meets q)) (fun _ => []) (fun _ => []) := by
 refine con func300 rfl ntmps300 rfl ?_;intro M0 F0 w0;refine k_ 2 ?_;refine ls (o_box rfl rfl rfl) ?_;refine le ?_; intro b2;refine ls (o_box rfl rfl rfl) ?_;refine le ?_; intro b3;refine k_ 5 ?_;refine ls (o_ldw isAgg101 sizeOf101 rfl Θ (by rfl) rfl) ?_;refine lC [] call226 (c_refNames p yp) ?_; rintro ⟨⟨la, ya⟩, hla⟩;dsimp only at hla;refine k_ 5 ?_;refine ls (o_ldw isAgg101 sizeOf101 rfl Θ (by rfl) rfl) ?_;refine lC [] call226 (c_refNames q yq) ?_; rintro ⟨⟨lb, yb⟩, hlb⟩;dsimp only at hlb;have hna : la.length ≤ 2 := hla ▸ refNames_len p;have hnb : lb.length ≤ 2 := hlb ▸ refNames_len q;have hm : p.meets q = la.any fun s => lb.any fun t => decide (s = t) := (by rw [hla, hlb]; exact (meets_ref p q).symm);refine k_ 10 ?_;refine cl (ι := {k : Nat // k ≤ la.length ∧ ((la.take k).any fun s => lb.any fun t => decide (s = t)) = false}) (fun i => St M0 F0 w0 34 [(5, .slice ya.1 la.length ya.2), (6, .slice yb.1 lb.length yb.2), (7, .int .i64 (i.1 : Int))] [] [slA ya.1 la, slA yb.1 lb]) (fun i => la.length - i.1) ⟨0, by simp⟩ (wK []) ?_;rintro ⟨k, hk, hkk⟩;refine cmono (S' := St M0 F0 w0 34 [(5, .slice ya.1 la.length ya.2), (6, .slice yb.1 lb.length yb.2), (7, .int .i64 (k : Int))] [] [slA ya.1 la, slA yb.1 lb]) Ħ ?_;refine k_ 9 ?_;refine cc rfl ?_ ?_
 ·intro h16;(try simp only [nrmZ] at h16);have hk1 : k < la.length := (by omega);refine k_ 10 ?_;refine cl (ι := {j : Nat // j ≤ lb.length ∧ ((lb.take j).any fun t => decide (la[k] = t)) = false}) (fun i => St M0 F0 w0 34 [(5, .slice ya.1 la.length ya.2), (6, .slice yb.1 lb.length yb.2), (7, .int .i64 (k : Int)), (8, .int .i64 (i.1 : Int))] [] [slA ya.1 la, slA yb.1 lb]) (fun i => lb.length - i.1) ⟨0, by simp⟩ (wk0 Φ Ω) ?_;rintro ⟨j, hj, hjj⟩;refine cmono (S' := St M0 F0 w0 34 [(5, .slice ya.1 la.length ya.2), (6, .slice yb.1 lb.length yb.2), (7, .int .i64 (k : Int)), (8, .int .i64 (j : Int))] [] [slA ya.1 la, slA yb.1 lb]) Ħ ?_;refine k_ 9 ?_;refine cc rfl ?_ ?_
  ·intro h22;(try simp only [nrmZ] at h22);have hj1 : j < lb.length := (by omega);refine k_ 5 ?_;refine elC Θ k (List.getElem?_eq_getElem (l := la) hk1) ?_; rintro zbp zop zyp hAp;refine elC Θ j (List.getElem?_eq_getElem (l := lb) hj1) ?_; rintro zbq zoq zyq hAq;refine cd [] [(3, zbp, zop + k * Rp.size ByteArray, _), (7, zbq, zoq + j * Rp.size ByteArray, _)] TryzX.mixed (TOk.t (isInS Θ (k := 0) rfl (z := 1) Δ) (TOk.t (isInS Θ (k := 0) rfl (z := 1) Δ) TOk.d)) ?_;refine u_ 0 2 ?_;refine tk 2 rfl Ψ Υ gnone (TTany _) (p_ia k hAp hk1 rfl underlying73 sizeOf9 rfl rfl) rfl ?_;refine u_ 3 3 ?_;refine tk 6 rfl Ψ Υ gnone (TTany _) (p_ia j hAq hj1 rfl underlying73 sizeOf9 rfl rfl) rfl ?_;refine u_ 7 2 ?_;refine dn Ψ ?_;refine k_ 1 ?_;refine cc rfl ?_ ?_
   ·intro h33;(try simp only [nrmZ] at h33);refine k_ 7 ?_;refine rret (is := []) () (Or.inl rfl) (Res.t rfl Res.d) ?_ rfl Ω;rw [hm]; exact congrArg Value.bool (any_two (List.getElem_mem hk1) (List.getElem_mem hj1) h33).symm
   ·intro h33;(try simp only [nrmZ] at h33);refine k_ 8 ?_;refine nnext ⟨j + 1, hj1, by rw [List.take_succ_eq_append_getElem hj1, List.any_append, hjj]; simp [h33]⟩ (by dsimp only; omega) (wk0 Φ Ω)
  ·intro h22;(try simp only [nrmZ] at h22);refine k_ 11 ?_;refine nnext ⟨k + 1, hk1, by rw [List.take_of_length_le (show lb.length ≤ j by omega)] at hjj; rw [List.take_succ_eq_append_getElem hk1, List.any_append, hkk]; simp only [List.any_cons, List.any_nil, Bool.or_false, Bool.false_or]; exact hjj⟩ (by dsimp only; omega) (wk0 Φ Ω)
 ·intro h16;(try simp only [nrmZ] at h16);refine k_ 12 ?_;refine rret (is := []) () (Or.inl rfl) (Res.t rfl Res.d) ?_ rfl Ω;rw [hm]; rw [List.take_of_length_le (show la.length ≤ k by omega)] at hkk; rw [hkk]; rfl
theorem two_fit {p q : Prim} (hp : p.fit) (hq : q.fit) : (Sx.refTwo p q).1.fit ∧ (Sx.refTwo p q).2.1.fit := by
 obtain ⟨p1, p2, p3, p4, p5, p6⟩ := hp;obtain ⟨q1, q2, q3, q4, q5, q6⟩ := hq;unfold Sx.refTwo Sx.hunks;refine ⟨?_, ?_⟩ <;> (repeat' split) <;> constructor <;> assumption
theorem c_refTwo (p q : Prim) (yp yq : Rp.Lay Prim) (hp : p.fit) (hq : q.fit) (hpr : p.right = true) (hqr : q.right = true) : Con Tryz.prog 285 [sv p yp, sv q yq] [] (Rp.asn p yp ++ Rp.asn q yq) (Two (refTwo p q)) (fun x => x.v) (fun _ => []) (fun x => x.g) := by
 refine con func285 rfl ntmps285 rfl ?_;intro M0 F0 w0;refine k_ 2 ?_;refine ls (o_box rfl rfl rfl) ?_;refine le ?_; intro b2;refine ls (o_box rfl rfl rfl) ?_;refine le ?_; intro b3;refine ls (o_alloc zeroValue101 rfl rfl) ?_;refine le ?_; intro b4;refine ls (o_alloc zeroValue101 rfl rfl) ?_;refine le ?_; intro b5;refine k_ 5 ?_;have hp1 := hp.o; have hp2 := hp.n; have hq1 := hq.o; have hq2 := hq.n; have hpa := right_pos hpr; have hqa := right_pos hqr;refine k_ 5 ?_;refine andX 4 10 14 rfl (sL [0, 1, 2, 3, 4, 5, 6]) ?_ ?_
 ·intro h10;refine k_ 4 ?_;refine ln (nmid (wk0 Φ Ω))
 apply exI
 ·intro h10;refine k_ 4 ?_;refine ln (nmid (wk0 Φ Ω))
 ·
  refine k_ 1 ?_;refine andX 6 15 21 rfl (sL [0, 1, 2, 3, 4, 5, 6]) ?_ ?_
  ·intro h15;refine k_ 6 ?_;refine ln (nmid (wk0 Φ Ω))
  apply exI
  ·intro h15;refine k_ 6 ?_;refine ln (nmid (wk0 Φ Ω))
  ·
   refine k_ 2 ?_;refine cc rfl ?_ ?_
   ·intro h21;have h21' : p.kind = 0 ∧ q.kind = 0 ∧ p.name = q.name := (by simpa [and_assoc] using h21);refine k_ 14 ?_;refine cc rfl ?_ ?_
    ·intro h30;(try simp only [nrmZ] at h30);refine cs ?_;refine cd [11, 13, 14] [(0, b3, 0, _), (2, b3, 3, _), (4, b2, 5, _), (8, b2, 4, _), (12, b2, 0, _)] TryzX.mixed (tB 6 (tB 1 (tB 1 (tB 1 (tB 6 TOk.d))))) ?_;refine u_ 0 11 ?_;refine u_ 12 1 ?_;refine df 11 Ψ ?_;refine doR rfl (o_call (is := []) call298 (c_refAt q yq _) rfl rfl Ω rfl) (TOk.x Ψ (TOk.x Ψ (TOk.x Ψ (TOk.x Ψ (TOk.t (isBoxE fun _ => isBoxS Θ (k := 6) Δ) TOk.d))))) ?_;refine ea ?_; intro x42;refine df 13 Ψ ?_;refine doR rfl (o_st rfl sizeOf101 rfl rfl rfl rfl rfl Θ Θ Θ) (TOk.x Ψ (TOk.x Ψ (TOk.x Ψ (TOk.x Ψ (tB 6 TOk.d))))) ?_;refine df 14 Ψ ?_;refine doR rfl (o_st rfl sizeOf101 rfl rfl rfl rfl rfl Θ Θ Θ) tX ?_;refine u_ 15 1 ?_;refine dn Ψ ?_;refine k_ 3 ?_;refine rret (is := []) ⟨(({ q with pos := q.pos - (p.new.length : Int) + (p.old.length : Int) }, p, true), (yq, yp)), by rw [refTwo, if_pos h21', Sx.hunks, if_pos h30, show q.pos - ((p.new.length : Int) - p.old.length) = q.pos - (p.new.length : Int) + (p.old.length : Int) by omega]⟩ (Or.inl rfl) (Res.c rfl isAgg101 sizeOf101 Θ (by rfl) (Res.c rfl isAgg101 sizeOf101 Θ (by rfl) (Res.t rfl Res.d))) (rfl) rfl Ω
    ·intro h30;(try simp only [nrmZ] at h30);refine k_ 16 ?_;refine cc rfl ?_ ?_
     ·intro h52;(try simp only [nrmZ] at h52);refine cs ?_;refine cd [12, 13, 14] [(0, b3, 0, _), (1, b2, 0, _), (3, b2, 3, _), (5, b3, 5, _), (9, b3, 4, _)] TryzX.mixed (tB 6 (tB 6 (tB 1 (tB 1 (tB 1 TOk.d))))) ?_;refine u_ 0 12 ?_;refine df 12 Ψ ?_;refine doR rfl (o_call (is := []) call298 (c_refAt p yp _) rfl rfl Ω rfl) (TOk.t (isBoxE fun _ => isBoxS Θ (k := 6) Δ) (TOk.x Ψ (TOk.x Ψ (TOk.x Ψ (TOk.x Ψ TOk.d))))) ?_;refine ea ?_; intro x65;refine df 13 Ψ ?_;refine doR rfl (o_st rfl sizeOf101 rfl rfl rfl rfl rfl Θ Θ Θ) tX ?_;refine df 14 Ψ ?_;refine doR rfl (o_st rfl sizeOf101 rfl rfl rfl rfl rfl Θ Θ Θ) tX ?_;refine u_ 15 1 ?_;refine dn Ψ ?_;refine k_ 3 ?_;refine rret (is := []) ⟨((q, { p with pos := p.pos + (q.new.length : Int) - (q.old.length : Int) }, true), (yq, yp)), by rw [refTwo, if_pos h21', Sx.hunks, if_neg (by omega), if_pos h52, show p.pos + ((q.new.length : Int) - q.old.length) = p.pos + (q.new.length : Int) - (q.old.length : Int) by omega]⟩ (Or.inl rfl) (Res.c rfl isAgg101 sizeOf101 Θ (by rfl) (Res.c rfl isAgg101 sizeOf101 Θ (by rfl) (Res.t rfl Res.d))) (rfl) rfl Ω
     ·intro h52;(try simp only [nrmZ] at h52);refine k_ 3 ?_;refine cd [2, 3] [(0, b2, 0, _), (1, b3, 0, _)] TryzX.mixed (tB 6 (tB 6 TOk.d)) ?_;refine u_ 0 2 ?_;refine df 2 Ψ ?_;refine doR rfl (o_st rfl sizeOf101 rfl rfl rfl rfl rfl Θ Θ Θ) (TOk.x Ψ (tB 6 TOk.d)) ?_;refine df 3 Ψ ?_;refine doR rfl (o_st rfl sizeOf101 rfl rfl rfl rfl rfl Θ Θ Θ) tX ?_;refine u_ 4 1 ?_;refine dn Ψ ?_;refine k_ 3 ?_;refine rret (is := []) ⟨((p, q, false), (yp, yq)), by rw [refTwo, if_pos h21', Sx.hunks, if_neg (by omega), if_neg (by omega)]⟩ (Or.inl rfl) (Res.c rfl isAgg101 sizeOf101 Θ (by rfl) (Res.c rfl isAgg101 sizeOf101 Θ (by rfl) (Res.t rfl Res.d))) (rfl) rfl Ω
   ·intro h21;have h21' : ¬ (p.kind = 0 ∧ q.kind = 0 ∧ p.name = q.name) := (by intro e; obtain ⟨e1, e2, e3⟩ := e; rw [e1, e2, e3] at h21; simp at h21);refine k_ 9 ?_;refine andX 4 71 75 rfl (sL [0, 1, 2, 3, 4, 5, 6, 21]) ?_ ?_
    ·intro h71;refine k_ 4 ?_;refine ln (nmid (wk0 Φ Ω))
    apply exI
    ·intro h71;refine k_ 4 ?_;refine ln (nmid (wk0 Φ Ω))
    ·
     refine k_ 1 ?_;refine andX 6 76 82 rfl (sL [0, 1, 2, 3, 4, 5, 6, 21]) ?_ ?_
     ·intro h76;refine k_ 6 ?_;refine ln (nmid (wk0 Φ Ω))
     apply exI
     ·intro h76;refine k_ 6 ?_;refine ln (nmid (wk0 Φ Ω))
     ·
      refine k_ 2 ?_;refine cc rfl ?_ ?_
      ·intro h82;have h82' : p.kind = 0 ∧ q.kind = 3 ∧ p.name = q.name := (by simpa [and_assoc] using h82);refine cs ?_;refine cd [4, 5, 6] [(0, b3, 0, _), (1, b2, 0, _), (3, b3, 2, _)] TryzX.mixed (tB 6 (tB 6 (tB 1 TOk.d))) ?_;refine u_ 0 4 ?_;refine df 4 Ψ ?_;refine doR rfl (o_call (is := []) call299 (c_refIn p yp _) rfl rfl Ω rfl) (TOk.t (isBoxE fun _ => isBoxS Θ (k := 6) Δ) (TOk.x Ψ (TOk.x Ψ TOk.d))) ?_;refine ea ?_; intro x87;refine df 5 Ψ ?_;refine doR rfl (o_st rfl sizeOf101 rfl rfl rfl rfl rfl Θ Θ Θ) tX ?_;refine df 6 Ψ ?_;refine doR rfl (o_st rfl sizeOf101 rfl rfl rfl rfl rfl Θ Θ Θ) tX ?_;refine u_ 7 1 ?_;refine dn Ψ ?_;refine k_ 3 ?_;refine rret (is := []) ⟨((q, { p with name := q.to }, true), (yq, yp)), by rw [refTwo, if_neg h21', if_pos h82']⟩ (Or.inl rfl) (Res.c rfl isAgg101 sizeOf101 Θ (by rfl) (Res.c rfl isAgg101 sizeOf101 Θ (by rfl) (Res.t rfl Res.d))) (rfl) rfl Ω
      ·intro h82;have h82' : ¬ (p.kind = 0 ∧ q.kind = 3 ∧ p.name = q.name) := (by intro e; obtain ⟨e1, e2, e3⟩ := e; rw [e1, e2, e3] at h82; simp at h82);refine k_ 9 ?_;refine andX 4 91 95 rfl (sL [0, 1, 2, 3, 4, 5, 6, 21, 82]) ?_ ?_
       ·intro h91;refine k_ 4 ?_;refine ln (nmid (wk0 Φ Ω))
       apply exI
       ·intro h91;refine k_ 4 ?_;refine ln (nmid (wk0 Φ Ω))
       ·
        refine k_ 1 ?_;refine andX 6 96 102 rfl (sL [0, 1, 2, 3, 4, 5, 6, 21, 82]) ?_ ?_
        ·intro h96;refine k_ 6 ?_;refine ln (nmid (wk0 Φ Ω))
        apply exI
        ·intro h96;refine k_ 6 ?_;refine ln (nmid (wk0 Φ Ω))
        ·
         refine k_ 2 ?_;refine cc rfl ?_ ?_
         ·intro h102;have h102' : p.kind = 3 ∧ q.kind = 0 ∧ p.to = q.name := (by simpa [and_assoc] using h102);refine cs ?_;refine cd [3, 5, 6] [(0, b3, 0, _), (2, b2, 1, _), (4, b2, 0, _)] TryzX.mixed (tB 6 (tB 1 (tB 6 TOk.d))) ?_;refine u_ 0 3 ?_;refine u_ 4 1 ?_;refine df 3 Ψ ?_;refine doR rfl (o_call (is := []) call299 (c_refIn q yq _) rfl rfl Ω rfl) (TOk.x Ψ (TOk.x Ψ (TOk.t (isBoxE fun _ => isBoxS Θ (k := 6) Δ) TOk.d))) ?_;refine ea ?_; intro x106;refine df 5 Ψ ?_;refine doR rfl (o_st rfl sizeOf101 rfl rfl rfl rfl rfl Θ Θ Θ) (TOk.x Ψ (TOk.x Ψ (tB 6 TOk.d))) ?_;refine df 6 Ψ ?_;refine doR rfl (o_st rfl sizeOf101 rfl rfl rfl rfl rfl Θ Θ Θ) tX ?_;refine u_ 7 1 ?_;refine dn Ψ ?_;refine k_ 3 ?_;refine rret (is := []) ⟨(({ q with name := p.name }, p, true), (yq, yp)), by rw [refTwo, if_neg h21', if_neg h82', if_pos h102']⟩ (Or.inl rfl) (Res.c rfl isAgg101 sizeOf101 Θ (by rfl) (Res.c rfl isAgg101 sizeOf101 Θ (by rfl) (Res.t rfl Res.d))) (rfl) rfl Ω
         ·intro h102;have h102' : ¬ (p.kind = 3 ∧ q.kind = 0 ∧ p.to = q.name) := (by intro e; obtain ⟨e1, e2, e3⟩ := e; rw [e1, e2, e3] at h102; simp at h102);refine k_ 9 ?_;refine andX 4 111 115 rfl (sL [0, 1, 2, 3, 4, 5, 6, 21, 82, 102]) ?_ ?_
          ·intro h111;refine k_ 4 ?_;refine ln (nmid (wk0 Φ Ω))
          apply exI
          ·intro h111;refine k_ 4 ?_;refine ln (nmid (wk0 Φ Ω))
          ·
           refine k_ 2 ?_;refine cc rfl ?_ ?_
           ·intro h115;have h115' : p.kind = 0 ∧ q.kind = 0 := (by simpa using h115);refine cs ?_;refine cd [2, 3] [(0, b3, 0, _), (1, b2, 0, _)] TryzX.mixed (tB 6 (tB 6 TOk.d)) ?_;refine u_ 0 2 ?_;refine df 2 Ψ ?_;refine doR rfl (o_st rfl sizeOf101 rfl rfl rfl rfl rfl Θ Θ Θ) (TOk.x Ψ (tB 6 TOk.d)) ?_;refine df 3 Ψ ?_;refine doR rfl (o_st rfl sizeOf101 rfl rfl rfl rfl rfl Θ Θ Θ) tX ?_;refine u_ 4 1 ?_;refine dn Ψ ?_;refine k_ 3 ?_;refine rret (is := []) ⟨((q, p, true), (yq, yp)), by rw [refTwo, if_neg h21', if_neg h82', if_neg h102', if_pos h115']⟩ (Or.inl rfl) (Res.c rfl isAgg101 sizeOf101 Θ (by rfl) (Res.c rfl isAgg101 sizeOf101 Θ (by rfl) (Res.t rfl Res.d))) (rfl) rfl Ω
           ·intro h115;have h115' : ¬ (p.kind = 0 ∧ q.kind = 0) := (by intro e; rw [e.1, e.2] at h115; simp at h115);refine k_ 3 ?_;refine cd [4, 6, 7] [(0, b3, 0, _), (1, b2, 0, _), (2, b2, 0, _), (3, b3, 0, _)] TryzX.mixed (tB 6 (tB 6 (tB 6 (tB 6 TOk.d)))) ?_;refine u_ 0 4 ?_;refine df 4 Ψ ?_;refine doR rfl (o_call (is := []) call300 (c_refCommon p q yp yq) rfl rfl Ω rfl) (TOk.t (isBoxE fun _ => isBoxS Θ (k := 6) Δ) (TOk.t (isBoxE fun _ => isBoxS Θ (k := 6) Δ) (TOk.x Ψ (TOk.x Ψ TOk.d)))) ?_;refine ea ?_; intro x122;refine u_ 5 1 ?_;refine df 6 Ψ ?_;refine doR rfl (o_st rfl sizeOf101 rfl rfl rfl rfl rfl Θ Θ Θ) (TOk.x Ψ (tB 6 (TOk.x Ψ (TOk.x Ψ TOk.d)))) ?_;refine df 7 Ψ ?_;refine doR rfl (o_st rfl sizeOf101 rfl rfl rfl rfl rfl Θ Θ Θ) tX ?_;refine u_ 8 1 ?_;refine dn Ψ ?_;refine k_ 3 ?_;refine rret (is := []) ⟨((q, p, !p.meets q), (yq, yp)), by rw [refTwo, if_neg h21', if_neg h82', if_neg h102', if_neg h115']⟩ (Or.inl rfl) (Res.c rfl isAgg101 sizeOf101 Θ (by rfl) (Res.c rfl isAgg101 sizeOf101 Θ (by rfl) (Res.t rfl Res.d))) (rfl) rfl Ω
theorem c_refSwap (p q : Prim) (yp yq : Rp.Lay Prim) (hp : p.fit) (hq : q.fit) : Con Tryz.prog 265 [sv p yp, sv q yq] [] (Rp.asn p yp ++ Rp.asn q yq) (Two (refSwap p q)) (fun x => x.v) (fun _ => []) (fun x => x.g) := by
 refine con func265 rfl ntmps265 rfl ?_;intro M0 F0 w0;refine k_ 2 ?_;refine ls (o_box rfl rfl rfl) ?_;refine le ?_; intro b2;refine ls (o_box rfl rfl rfl) ?_;refine le ?_; intro b3;refine ls (o_alloc zeroValue101 rfl rfl) ?_;refine le ?_; intro b4;refine ls (o_alloc zeroValue101 rfl rfl) ?_;refine le ?_; intro b5;refine k_ 6 ?_;refine ls (o_alloc zeroValue101 rfl rfl) ?_;refine le ?_; intro b7;refine k_ 5 ?_;refine cmono (fun a w h => nilSl (α := ByteArray) h) ?_;refine cr ?_;refine ls (o_ldw isAgg101 sizeOf101 rfl Θ (by rfl) rfl) ?_;refine lC [] call114 (c_refRight p yp hp) ?_; intro x13;refine k_ 2 ?_;refine orX 4 15 19 rfl (sL [0, 1, 2, 3, 4, 5, 6, 11, 7]) ?_ ?_
 ·intro h15;refine k_ 4 ?_;refine ln (nmid (wk0 Φ Ω))
 apply exI
 ·intro h15;refine lwant rfl rfl rfl rfl (o_ldw isAgg101 sizeOf101 rfl Θ (by rfl) rfl) ?_;refine lwant rfl rfl rfl rfl (o_call (is := []) call114 (c_refRight q yq hq) rfl rfl Ω rfl) ?_;refine le ?_; intro x17;refine k_ 2 ?_;refine ln (nmid (wk0 Φ Ω))
 ·
  refine k_ 2 ?_;refine cc rfl ?_ ?_
  ·intro h19;have h19' : (p.right && q.right) = false := (by rw [Bool.eq_false_iff]; intro e; simp only [Bool.and_eq_true] at e; rw [e.1, e.2] at h19; simp at h19);refine cs ?_;refine cd [2, 3] [(0, b7, 0, _), (1, b7, 0, _)] TryzX.mixed (tB 6 (tB 6 TOk.d)) ?_;refine u_ 0 2 ?_;refine df 2 Ψ ?_;refine doR rfl (o_st rfl sizeOf101 rfl rfl rfl rfl rfl Θ Θ Θ) (TOk.x Ψ (tB 6 TOk.d)) ?_;refine df 3 Ψ ?_;refine doR rfl (o_st rfl sizeOf101 rfl rfl rfl rfl rfl Θ Θ Θ) tX ?_;refine u_ 4 1 ?_;refine dn Ψ ?_;refine k_ 3 ?_;refine rret (is := []) ⟨((Prim.zero, Prim.zero, false), (((none, 0), (none, 0)), ((none, 0), (none, 0)))), by rw [Sx.refSwap, h19']; rfl⟩ (Or.inl rfl) (Res.c rfl isAgg101 sizeOf101 Θ (by rfl) (Res.c rfl isAgg101 sizeOf101 Θ (by rfl) (Res.t rfl Res.d))) (rfl) rfl Ω
  ·intro h19;have h19' : p.right = true ∧ q.right = true := (by simpa using h19);refine k_ 4 ?_;refine ls (o_ldw isAgg101 sizeOf101 rfl Θ (by rfl) rfl) ?_;refine ls (o_ldw isAgg101 sizeOf101 rfl Θ (by rfl) rfl) ?_;refine lC [] call285 (c_refTwo p q yp yq hp hq h19'.1 h19'.2) ?_; rintro ⟨⟨⟨r1, r2, r3⟩, z1, z2⟩, hr⟩;obtain ⟨hf1, hf2⟩ := two_fit hp hq; rw [← hr] at hf1 hf2; dsimp only at hr hf1 hf2;refine k_ 4 ?_;refine ls (o_alloc zeroValue101 rfl rfl) ?_;refine le ?_; intro b8;refine ls (o_alloc zeroValue101 rfl rfl) ?_;refine le ?_; intro b9;refine k_ 11 ?_;refine orX 4 31 35 rfl (sL [0, 1, 2, 3, 4, 5, 6, 11, 7, 19, 23, 24, 25, 22, 26, 27, 28, 8, 9]) ?_ ?_
   ·intro h31;refine k_ 4 ?_;refine ln (nmid (wk0 Φ Ω))
   apply exI
   ·intro h31;refine lwant rfl rfl rfl rfl (o_ldw isAgg101 sizeOf101 rfl Θ (by rfl) rfl) ?_;refine lwant rfl rfl rfl rfl (o_call (is := []) call114 (c_refRight r1 z1 hf1) rfl rfl Ω rfl) ?_;refine le ?_; intro x33;refine k_ 2 ?_;refine ln (nmid (wk0 Φ Ω))
   ·
    refine k_ 1 ?_;refine orX 4 36 40 rfl (sL [0, 1, 2, 3, 4, 5, 6, 11, 7, 19, 23, 24, 25, 22, 26, 27, 28, 8, 9]) ?_ ?_
    ·intro h36;refine k_ 4 ?_;refine ln (nmid (wk0 Φ Ω))
    apply exI
    ·intro h36;refine lwant rfl rfl rfl rfl (o_ldw isAgg101 sizeOf101 rfl Θ (by rfl) rfl) ?_;refine lwant rfl rfl rfl rfl (o_call (is := []) call114 (c_refRight r2 z2 hf2) rfl rfl Ω rfl) ?_;refine le ?_; intro x38;refine k_ 2 ?_;refine ln (nmid (wk0 Φ Ω))
    ·
     refine k_ 2 ?_;refine cc rfl ?_ ?_
     ·intro h40;dsimp only at h40;refine cs ?_;refine cd [2, 3] [(0, b7, 0, _), (1, b7, 0, _)] TryzX.mixed (tB 6 (tB 6 TOk.d)) ?_;refine u_ 0 2 ?_;refine df 2 Ψ ?_;refine doR rfl (o_st rfl sizeOf101 rfl rfl rfl rfl rfl Θ Θ Θ) (TOk.x Ψ (tB 6 TOk.d)) ?_;refine df 3 Ψ ?_;refine doR rfl (o_st rfl sizeOf101 rfl rfl rfl rfl rfl Θ Θ Θ) tX ?_;refine u_ 4 1 ?_;refine dn Ψ ?_;refine k_ 3 ?_;refine rret (is := []) ⟨((Prim.zero, Prim.zero, false), (((none, 0), (none, 0)), ((none, 0), (none, 0)))), by rw [Sx.refSwap, ← hr]; cases r3 <;> cases e1 : r1.right <;> cases e2 : r2.right <;> simp_all⟩ (Or.inl rfl) (Res.c rfl isAgg101 sizeOf101 Θ (by rfl) (Res.c rfl isAgg101 sizeOf101 Θ (by rfl) (Res.t rfl Res.d))) (rfl) rfl Ω
     ·intro h40;dsimp only at h40;refine k_ 3 ?_;refine cd [2, 3] [(0, b8, 0, _), (1, b9, 0, _)] TryzX.mixed (tB 6 (tB 6 TOk.d)) ?_;refine u_ 0 2 ?_;refine df 2 Ψ ?_;refine doR rfl (o_st rfl sizeOf101 rfl rfl rfl rfl rfl Θ Θ Θ) (TOk.x Ψ (tB 6 TOk.d)) ?_;refine df 3 Ψ ?_;refine doR rfl (o_st rfl sizeOf101 rfl rfl rfl rfl rfl Θ Θ Θ) tX ?_;refine u_ 4 1 ?_;refine dn Ψ ?_;refine k_ 3 ?_;refine rret (is := []) ⟨((r1, r2, true), (z1, z2)), by rw [Sx.refSwap, ← hr]; cases r3 <;> cases e1 : r1.right <;> cases e2 : r2.right <;> simp_all⟩ (Or.inl rfl) (Res.c rfl isAgg101 sizeOf101 Θ (by rfl) (Res.c rfl isAgg101 sizeOf101 Θ (by rfl) (Res.t rfl Res.d))) (rfl) rfl Ω
theorem c_refSame (p q : Prim) (yp yq : Rp.Lay Prim) (hp : p.fit) : Con Tryz.prog 86 [sv p yp, sv q yq] [] (Rp.asn p yp ++ Rp.asn q yq) Unit (fun _ => .bool (decide (p = q))) (fun _ => []) (fun _ => []) := by
 refine con func86 rfl ntmps86 rfl ?_;intro M0 F0 w0;refine k_ 2 ?_;refine ls (o_box rfl rfl rfl) ?_;refine le ?_; intro b2;refine ls (o_box rfl rfl rfl) ?_;refine le ?_; intro b3;refine k_ 11 ?_;refine andX 6 10 16 rfl (sL [0, 1, 2, 3, 4]) ?_ ?_
 ·intro h10;refine k_ 6 ?_;refine ln (nmid (wk0 Φ Ω))
 apply exI
 ·intro h10;refine k_ 6 ?_;refine ln (nmid (wk0 Φ Ω))
 ·
  refine k_ 1 ?_;refine andX 6 17 23 rfl (sL [0, 1, 2, 3, 4]) ?_ ?_
  ·intro h17;refine k_ 6 ?_;refine ln (nmid (wk0 Φ Ω))
  apply exI
  ·intro h17;refine k_ 6 ?_;refine ln (nmid (wk0 Φ Ω))
  ·
   refine k_ 1 ?_;refine andX 6 24 30 rfl (sL [0, 1, 2, 3, 4]) ?_ ?_
   ·intro h24;refine k_ 6 ?_;refine ln (nmid (wk0 Φ Ω))
   apply exI
   ·intro h24;refine k_ 6 ?_;refine ln (nmid (wk0 Φ Ω))
   ·
    refine k_ 1 ?_;refine andX 6 31 37 rfl (sL [0, 1, 2, 3, 4]) ?_ ?_
    ·intro h31;refine k_ 6 ?_;refine ln (nmid (wk0 Φ Ω))
    apply exI
    ·intro h31;refine k_ 4 ?_;refine lwant rfl rfl rfl rfl (o_call (is := []) call115 (c_refSame1 p.old q.old _ _ _ _ hp.o) rfl rfl Ω rfl) ?_;refine le ?_; intro x36;refine k_ 1 ?_;refine ln (nmid (wk0 Φ Ω))
    ·
     refine k_ 1 ?_;refine andX 6 38 44 rfl (sL [0, 1, 4]) ?_ ?_
     ·intro h38;refine k_ 6 ?_;refine ln (nmid (wk0 Φ Ω))
     apply exI
     ·intro h38;refine k_ 4 ?_;refine lwant rfl rfl rfl rfl (o_call (is := []) call115 (c_refSame1 p.new q.new _ _ _ _ hp.n) rfl rfl Ω rfl) ?_;refine le ?_; intro x43;refine k_ 1 ?_;refine ln (nmid (wk0 Φ Ω))
     ·
      refine k_ 5 ?_;refine rret (is := []) () (Or.inl rfl) (Res.t rfl Res.d) ?_ rfl Ω;simp only [packV, dec_prim]
def pre (l : List Prim) (k : Nat) : Nat := ((l.take k).map Prim.many).sum
theorem pre_succ {l : List Prim} {k : Nat} (h : k < l.length) : pre l (k + 1) = pre l k + l[k].many := by
 unfold pre;rw [List.take_succ_eq_append_getElem h, List.map_append, List.sum_append];simp only [List.map_cons, List.map_nil, List.sum_cons, List.sum_nil, Nat.add_zero]
theorem pre_all (l : List Prim) : l.length + pre l l.length = many l := by
 unfold pre many;rw [List.take_length]
theorem sum_take (l : List Nat) (k : Nat) : (l.take k).sum ≤ l.sum := by
 have h := congrArg List.sum (List.take_append_drop k l);rw [List.sum_append] at h;omega
theorem pre_le (l : List Prim) (k : Nat) : l.length + pre l k ≤ many l := by
 unfold pre many;have := sum_take (l.map Prim.many) k;rw [← List.map_take] at this;omega
theorem sizes_succ {l : List ByteArray} {k : Nat} (h : k < l.length) : sizes (l.take (k + 1)) = sizes (l.take k) + l[k].size := by
 unfold sizes;rw [List.take_succ_eq_append_getElem h, List.map_append, List.sum_append];simp only [List.map_cons, List.map_nil, List.sum_cons, List.sum_nil, Nat.add_zero]
theorem sizes_le (l : List ByteArray) (k : Nat) : sizes (l.take k) ≤ sizes l := by
 unfold sizes;have := sum_take (l.map ByteArray.size) k;rw [← List.map_take] at this;exact this
theorem c_Many (l : List Prim) (A : Option Addr) (c : Nat) (hl : l.length ≤ 2000000) (hM : many l ≤ 1000000000000) : Con Tryz.prog 13 [.slice A l.length c] [] [slA A l] Unit (fun _ => .int .i64 (many l : Int)) (fun _ => []) (fun _ => []) := by
 refine con func13 rfl ntmps13 rfl ?_;intro M0 F0 w0;refine k_ 21 ?_;refine cl (ι := {q : Nat × Int // q.1 ≤ l.length ∧ q.2 = ((l.length + pre l q.1 : Nat) : Int)}) (fun i => St M0 F0 w0 61 [(12, .slice A l.length c), (13, .int .i64 (l.length : Int)), (14, .int .i64 (i.1.1 : Int)), (3, .int .i64 i.1.2)] [] [slA A l]) (fun i => l.length - i.1.1) ⟨(0, (l.length : Int)), by simp [pre]⟩ (wk0 Φ Ω) ?_;rintro ⟨⟨k, n⟩, hk, hn⟩;refine cmono (S' := St M0 F0 w0 61 [(12, .slice A l.length c), (13, .int .i64 (l.length : Int)), (14, .int .i64 (k : Int)), (3, .int .i64 n)] [] [slA A l]) Ħ ?_;refine k_ 6 ?_;refine cc rfl ?_ ?_
 ·intro h15;dsimp only at hk hn;(try simp only [nrmZ] at h15);have hk1 : k < l.length := (by omega);have hs := pre_succ hk1;have ht := pre_le l (k + 1);have hu : l[k].many = l[k].name.size + l[k].to.size + l[k].old.length + l[k].new.length + sizes l[k].old + sizes l[k].new := rfl;refine k_ 5 ?_;refine elC Θ k (List.getElem?_eq_getElem (l := l) hk1) ?_; rintro zbp zop zyp hAp;refine cr ?_;refine ls (op (p_ia k hAp hk1 rfl underlying24 sizeOf101 rfl rfl) rfl) ?_;refine ls (o_ldj isAgg101 sizeOf101 rfl Θ 0 rfl Δ rfl) ?_;refine ls (o_alloc zeroValue101 rfl rfl) ?_;refine le ?_; intro b5;refine k_ 35 ?_;refine cl (ι := {q : Nat × Int // q.1 ≤ l[k].old.length ∧ q.2 = (n + ((((l[k].name.size : Int) + l[k].to.size) + l[k].old.length) + l[k].new.length)) + sizes (l[k].old.take q.1)}) (fun i => St M0 F0 w0 61 [(12, .slice A l.length c), (13, .int .i64 (l.length : Int)), (14, .int .i64 (k : Int)), (5, pT b5), (36, .slice zyp.1.1 l[k].old.length zyp.1.2), (37, .int .i64 (l[k].old.length : Int)), (38, .int .i64 (i.1.1 : Int)), (3, .int .i64 i.1.2)] [box b5 101 (Rp.enc l[k] zyp)] [slA A l, slA zyp.1.1 l[k].old, slA zyp.2.1 l[k].new]) (fun i => l[k].old.length - i.1.1) ⟨(0, (n + ((((l[k].name.size : Int) + l[k].to.size) + l[k].old.length) + l[k].new.length))), by simp [sizes]⟩ (wk0 Φ Ω) ?_;rintro ⟨⟨j, x⟩, hj, hx⟩;refine cmono (S' := St M0 F0 w0 61 [(12, .slice A l.length c), (13, .int .i64 (l.length : Int)), (14, .int .i64 (k : Int)), (5, pT b5), (36, .slice zyp.1.1 l[k].old.length zyp.1.2), (37, .int .i64 (l[k].old.length : Int)), (38, .int .i64 (j : Int)), (3, .int .i64 x)] [box b5 101 (Rp.enc l[k] zyp)] [slA A l, slA zyp.1.1 l[k].old, slA zyp.2.1 l[k].new]) Ħ ?_;refine k_ 6 ?_;refine cc rfl ?_ ?_
  ·intro h39;dsimp only at hj hx;(try simp only [nrmZ] at h39);have hj1 : j < l[k].old.length := (by omega);have ej1 := sizes_succ hj1;have ej2 := sizes_le l[k].old (j + 1);refine k_ 5 ?_;refine elC Θ j (List.getElem?_eq_getElem (l := l[k].old) hj1) ?_; rintro zbq zoq zyq hAq;refine cr ?_;refine ls (op (p_ia j hAq hj1 rfl underlying73 sizeOf9 rfl rfl) rfl) ?_;refine ls (o_ldi isAgg9 rfl Θ 0 rfl Δ rfl) ?_;refine k_ 16 ?_;refine nnext ⟨(j + 1, x + (l[k].old[j].size : Int)), hj1, by dsimp only; omega⟩ (by dsimp only; omega) (wk0 Φ Ω)
  ·intro h39;dsimp only at hj hx;(try simp only [nrmZ] at h39);rw [List.take_of_length_le (by omega)] at hx;refine k_ 14 ?_;refine cl (ι := {q : Nat × Int // q.1 ≤ l[k].new.length ∧ q.2 = x + sizes (l[k].new.take q.1)}) (fun i => St M0 F0 w0 61 [(12, .slice A l.length c), (13, .int .i64 (l.length : Int)), (14, .int .i64 (k : Int)), (5, pT b5), (48, .slice zyp.2.1 l[k].new.length zyp.2.2), (49, .int .i64 (l[k].new.length : Int)), (50, .int .i64 (i.1.1 : Int)), (3, .int .i64 i.1.2)] [box b5 101 (Rp.enc l[k] zyp)] [slA A l, slA zyp.1.1 l[k].old, slA zyp.2.1 l[k].new]) (fun i => l[k].new.length - i.1.1) ⟨(0, x), by simp [sizes]⟩ (wk0 Φ Ω) ?_;rintro ⟨⟨g, y⟩, hg, hy⟩;refine cmono (S' := St M0 F0 w0 61 [(12, .slice A l.length c), (13, .int .i64 (l.length : Int)), (14, .int .i64 (k : Int)), (5, pT b5), (48, .slice zyp.2.1 l[k].new.length zyp.2.2), (49, .int .i64 (l[k].new.length : Int)), (50, .int .i64 (g : Int)), (3, .int .i64 y)] [box b5 101 (Rp.enc l[k] zyp)] [slA A l, slA zyp.1.1 l[k].old, slA zyp.2.1 l[k].new]) Ħ ?_;refine k_ 6 ?_;refine cc rfl ?_ ?_
   ·intro h51;dsimp only at hg hy;(try simp only [nrmZ] at h51);have hg1 : g < l[k].new.length := (by omega);have eg1 := sizes_succ hg1;have eg2 := sizes_le l[k].new (g + 1);refine k_ 5 ?_;refine elC Θ g (List.getElem?_eq_getElem (l := l[k].new) hg1) ?_; rintro zbr zor zyr hAr;refine cr ?_;refine ls (op (p_ia g hAr hg1 rfl underlying73 sizeOf9 rfl rfl) rfl) ?_;refine ls (o_ldi isAgg9 rfl Θ 0 rfl Δ rfl) ?_;refine k_ 16 ?_;refine nnext ⟨(g + 1, y + (l[k].new[g].size : Int)), hg1, by dsimp only; omega⟩ (by dsimp only; omega) (wk0 Φ Ω)
   ·intro h51;dsimp only at hg hy;(try simp only [nrmZ] at h51);rw [List.take_of_length_le (by omega)] at hy;refine k_ 10 ?_;refine nnext ⟨(k + 1, y), hk1, by dsimp only; omega⟩ (by dsimp only; omega) (wK [])
 ·intro h15;dsimp only at hk hn;(try simp only [nrmZ] at h15);refine k_ 13 ?_;refine rret (is := []) () (Or.inl rfl) (Res.t rfl Res.d) ?_ rfl Ω;have e := pre_all l; rw [show k = l.length by omega] at hn; rw [hn]; simp only [packV]; rw [e]
def Tfit (T : List File) : Prop := ∀ x ∈ T, x.2.length ≤ 2000000
theorem Tfit.get {T : List File} (h : Tfit T) (k : ByteArray) : (getL T k).length ≤ 2000000 := by
 unfold getL getT;cases e : T.find? (fun x => decide (x.1 = k)) with
 | none => simp
 | some x => simpa using h x (List.mem_of_find?_eq_some e)
theorem c_sCloneR (l : List ByteArray) (A : Option Addr) (c : Nat) (hl : l.length ≤ 2000000) : Con Tryz.prog 165 [.slice A l.length c] [] [slA A l] (Option Addr × Nat) (fun y => .slice y.1 l.length y.2) (fun y => [row 9 y.1 y.2 l]) (fun _ => []) := by
 refine con func165 rfl ntmps165 rfl ?_;intro M0 F0 w0;refine k_ 9 ?_;refine ls (op (p_slnil underlying73 rfl rfl) rfl) ?_;refine k_ 2 ?_;refine cc rfl ?_ ?_
 ·intro h4;have h5 : A = none := (by simpa using h4);refine cs ?_;subst h5;refine cmono (fun a w h => nil_len (l := l) (i := 0) At.z h) ?_;refine cf ?_; rintro rfl;refine cmono (fun a w h => nilRow (α := ByteArray) 9 h) ?_;refine k_ 6 ?_;exact rR [0] (none, 0)
 ·intro h4;have h5 : ¬ A = none := (by intro e; rw [e] at h4; cases h4);refine k_ 4 ?_;refine ls (o_bsl ([] : List ByteArray) underlying73 sizeOf9 zeroValue9 rfl Enum.d RV.d rfl (by decide) (by decide) rfl) ?_;refine le ?_; intro b5;refine k_ 1 ?_;refine ls (o_app (is := [0]) underlying73 inf9 rfl (by decide) (by decide) rfl rfl (by simp; omega) (fun _ h => absurd h h5) rfl Ω rfl) ?_;refine le ?_; rintro ⟨A', c2⟩;rw [List.nil_append];refine k_ 5 ?_;exact rR [0] (A', c2)
theorem c_tNew : Con Tryz.prog 79 [] [] [] (Nat × Nat) (fun y => pT y.1) (fun y => [box y.1 139 [.map (some y.2)], tr y.2 ([] : List File)]) (fun _ => []) := by
 refine con func79 rfl ntmps79 rfl ?_;intro M0 F0 w0;refine k_ 7 ?_;refine ls (o_mmk (β := ByteArray) rfl) ?_;refine le ?_; intro m1;refine k_ 1 ?_;refine ls (o_box rfl rfl rfl) ?_;refine le ?_; intro b3;refine k_ 5 ?_;exact rR [0, 0] (b3, m1)
theorem c_tHas (p b : Nat) (T : List File) (k : ByteArray) : Con Tryz.prog 198 [pT p, .string k] [box p 139 [.map (some b)], tr b T] [] Unit (fun _ => .bool (hasT T k)) (fun _ => [box p 139 [.map (some b)], tr b T]) (fun _ => []) := by
 refine con func198 rfl ntmps198 rfl ?_;intro M0 F0 w0;refine k_ 8 ?_;refine ls (op (p_nilck rfl) rfl) ?_;refine k_ 3 ?_;refine ls (o_look underlying137 underlying9 zeroValue73 rfl rfl Θ rfl) ?_;refine le ?_; rintro y13;refine k_ 15 ?_;exact rR [0, 0] ()
theorem c_tAdd (p b : Nat) (T : List File) (k : ByteArray) : Con Tryz.prog 199 [pT p, .string k] [box p 139 [.map (some b)], tr b T] [] {q : List File × Int // q = tAdd T k} (fun q => .int .i64 q.1.2) (fun q => [box p 139 [.map (some b)], tr b q.1.1]) (fun _ => []) := by
 refine con func199 rfl ntmps199 rfl ?_;intro M0 F0 w0;refine k_ 10 ?_;refine lC [] call94 (c_treeNamed k) ?_; intro x7;refine k_ 4 ?_;refine cc rfl ?_ ?_
 ·intro h5;refine k_ 7 ?_;exact rR [0, 0] ⟨(T, 20), by simp only [Bool.not_eq_true'] at h5; simp [tAdd, h5]⟩
 ·intro h5;refine k_ 4 ?_;refine lC [0, 0] call198 (c_tHas p b T k) ?_; intro x12;refine k_ 3 ?_;refine cc rfl ?_ ?_
  ·intro h9;refine k_ 7 ?_;exact rR [0, 0] ⟨(T, 21), by simp only [Bool.not_eq_false'] at h5; simp [tAdd, h5, h9]⟩
  ·intro h9;refine k_ 6 ?_;refine ls (op (p_nilck rfl) rfl) ?_;refine k_ 3 ?_;refine ls (o_mupdN (i := 1) underlying137 underlying9 rfl rfl rfl rfl) ?_;refine k_ 9 ?_;exact rR [1, 0] ⟨(putT T k [], 0), by simp only [Bool.not_eq_false'] at h5; simp [tAdd, h5, h9]⟩
theorem c_tRem (p b : Nat) (T : List File) (k : ByteArray) : Con Tryz.prog 200 [pT p, .string k] [box p 139 [.map (some b)], tr b T] [] {q : List File × Int // q = tRem T k} (fun q => .int .i64 q.1.2) (fun q => [box p 139 [.map (some b)], tr b q.1.1]) (fun _ => []) := by
 refine con func200 rfl ntmps200 rfl ?_;intro M0 F0 w0;refine k_ 11 ?_;refine lC [0, 0] call198 (c_tHas p b T k) ?_; intro x8;refine k_ 4 ?_;refine cc rfl ?_ ?_
 ·intro h5;refine k_ 7 ?_;exact rR [0, 0] ⟨(T, 20), by simp only [Bool.not_eq_true'] at h5; simp [tRem, h5]⟩
 ·intro h5;refine k_ 3 ?_;refine ls (op (p_nilck rfl) rfl) ?_;refine k_ 3 ?_;refine ls (o_look1 underlying137 underlying9 zeroValue73 rfl rfl Θ rfl) ?_;refine le ?_; rintro y16;refine k_ 5 ?_;refine cc rfl ?_ ?_
  ·intro h10;refine k_ 7 ?_;exact rR [0, 0] ⟨(T, 22), by simp only [Bool.not_eq_false'] at h5; have h : 0 < (getL T k).length := (by simp at h10; omega); simp [tRem, h5, h]⟩
  ·intro h10;refine k_ 6 ?_;refine ls (op (p_nilck rfl) rfl) ?_;refine k_ 3 ?_;refine ls (o_mdel0 (i := 1) underlying137 underlying9 rfl rfl rfl) ?_;refine k_ 9 ?_;exact rR [1, 0] ⟨(delT T k, 0), by simp only [Bool.not_eq_false'] at h5; have h : ¬ 0 < (getL T k).length := (by simp at h10; simp [h10]); simp [tRem, h5, h]⟩
theorem c_tMove (p b : Nat) (T : List File) (k u : ByteArray) : Con Tryz.prog 145 [pT p, .string k, .string u] [box p 139 [.map (some b)], tr b T] [] {q : List File × Int // q = tMove T k u} (fun q => .int .i64 q.1.2) (fun q => [box p 139 [.map (some b)], tr b q.1.1]) (fun _ => []) := by
 refine con func145 rfl ntmps145 rfl ?_;intro M0 F0 w0;refine k_ 11 ?_;refine lC [0, 0] call198 (c_tHas p b T k) ?_; intro x10;refine k_ 2 ?_;refine orX 4 12 16 rfl (sL [0, 1, 2, 6]) ?_ ?_
 ·intro h12;refine k_ 4 ?_;refine ln (nmid (wk0 Φ Ω))
 apply exI
 ·intro h12;refine k_ 1 ?_;refine lwant rfl rfl rfl rfl (o_call (is := []) call94 (c_treeNamed u) rfl rfl Ω rfl) ?_;refine le ?_; intro x14;refine k_ 2 ?_;refine ln (nmid (wk0 Φ Ω))
 ·
  refine k_ 3 ?_;refine cc rfl ?_ ?_
  ·intro h7;refine k_ 7 ?_;exact rR [0, 0] ⟨(T, 20), by simp at h7; simp [tMove, h7]⟩
  ·intro h7;refine k_ 4 ?_;refine lC [0, 0] call198 (c_tHas p b T u) ?_; intro x20;refine k_ 3 ?_;refine cc rfl ?_ ?_
   ·intro h17;refine k_ 7 ?_;exact rR [0, 0] ⟨(T, 21), by simp at h7; simp [tMove, h7, h17]⟩
   ·intro h17;refine k_ 4 ?_;refine cd [10, 11] [(3, p, 0, _), (8, p, 0, _)] TryzX.mixed (tB 1 (tB 1 TOk.d)) ?_;refine u_ 0 1 ?_;refine tk 1 rfl Ψ Υ gnone (TTany _) (p_nilck rfl) rfl ?_;refine u_ 2 4 ?_;refine tk 6 rfl Ψ Υ gnone (TTany _) (p_nilck rfl) rfl ?_;refine u_ 7 3 ?_;refine df 10 Ψ ?_;refine doR rfl (o_look1 underlying137 underlying9 zeroValue73 rfl rfl Θ rfl) (TOk.t (isBoxE fun _ => isBoxS Θ (k := 1) Δ) (TOk.x Ψ TOk.d)) ?_;refine ea ?_; rintro y31;refine df 11 Ψ ?_;refine doR rfl (o_mupd (i := 1) underlying137 underlying9 rfl rfl rfl rfl Ω) tX ?_;refine dn Ψ ?_;refine k_ 4 ?_;refine ls (op (p_nilck rfl) rfl) ?_;refine k_ 3 ?_;refine ls (o_mdel0 (i := 0) underlying137 underlying9 rfl rfl rfl) ?_;refine k_ 9 ?_;exact rR [1, 0] ⟨(delT (putT T u (getL T k)) k, 0), by simp at h7; simp [tMove, h7, h17]⟩
theorem c_tPut (p b : Nat) (T : List File) (k : ByteArray) (l : List ByteArray) (A : Option Addr) (c : Nat) (hl : l.length ≤ 2000000) : Con Tryz.prog 197 [pT p, .string k, .slice A l.length c] [box p 139 [.map (some b)], tr b T] [slA A l] {q : List File × Int // q = tPut T k l} (fun q => .int .i64 q.1.2) (fun q => [box p 139 [.map (some b)], tr b q.1.1]) (fun _ => []) := by
 refine con func197 rfl ntmps197 rfl ?_;intro M0 F0 w0;refine k_ 11 ?_;refine lC [0, 0] call198 (c_tHas p b T k) ?_; intro x10;refine k_ 4 ?_;refine cc rfl ?_ ?_
 ·intro h7;refine k_ 7 ?_;exact rR [0, 0] ⟨(T, 20), by simp only [Bool.not_eq_true'] at h7; simp [tPut, h7]⟩
 ·intro h7;refine k_ 3 ?_;refine lC [] call195 (c_lineAll l A c hl) ?_; intro x14;refine k_ 4 ?_;refine cc rfl ?_ ?_
  ·intro h12;refine k_ 7 ?_;exact rR [0, 0] ⟨(T, 1), by simp only [Bool.not_eq_false'] at h7; simp only [Bool.not_eq_true'] at h12; simp [tPut, h7, h12]⟩
  ·intro h12;refine k_ 4 ?_;refine cd [6, 7] [(3, p, 0, _)] TryzX.mixed (tB 1 TOk.d) ?_;refine u_ 0 1 ?_;refine tk 1 rfl Ψ Υ gnone (TTany _) (p_nilck rfl) rfl ?_;refine u_ 2 4 ?_;refine df 6 Ψ ?_;refine doR rfl (o_call (is := []) call165 (c_sCloneR l A c hl) rfl rfl Ω rfl) (TOk.t (isBoxE fun _ => isBoxS Θ (k := 1) Δ) TOk.d) ?_;refine ea ?_; rintro ⟨A2, c2⟩;refine amono (fun a w h => freezeN (i := 0) rfl h) ?_;refine df 7 Ψ ?_;refine doR rfl (o_mupd (i := 1) underlying137 underlying9 rfl rfl rfl rfl Ω) tX ?_;refine dn Ψ ?_;refine k_ 8 ?_;exact rR [1, 0] ⟨(putT T k l, 0), by simp only [Bool.not_eq_false'] at h7 h12; simp [tPut, h7, h12]⟩
theorem c_tGet (p b : Nat) (T : List File) (hT : Tfit T) (k : ByteArray) : Con Tryz.prog 116 [pT p, .string k] [box p 139 [.map (some b)], tr b T] [] (Option Addr × Nat) (fun y => .tuple #[.slice y.1 (getL T k).length y.2, .bool (hasT T k)]) (fun y => [row 9 y.1 y.2 (getL T k), box p 139 [.map (some b)], tr b T]) (fun _ => []) := by
 refine con func116 rfl ntmps116 rfl ?_;intro M0 F0 w0;refine k_ 9 ?_;refine ls (op (p_nilck rfl) rfl) ?_;refine k_ 3 ?_;refine ls (o_look underlying137 underlying9 zeroValue73 rfl rfl Θ rfl) ?_;refine le ?_; rintro y14;refine k_ 10 ?_;refine lC [] call165 (c_sCloneR (getL T k) y14.1 y14.2 (hT.get k)) ?_; intro y18;refine k_ 7 ?_;exact rR [0, 0, 0] y18
theorem c_mClone (b : Nat) (T : List File) : Con Tryz.prog 133 [.map (some b)] [tr b T] [] Nat (fun b' => .map (some b')) (fun b' => [tr b' T, tr b T]) (fun _ => []) := by
 refine con func133 rfl ntmps133 rfl ?_;intro M0 F0 w0;refine k_ 9 ?_;refine ls (op (p_mapnil underlying137 rfl) rfl) ?_;refine k_ 2 ?_;refine cc rfl (fun h => by cases h) (fun h => ?_);refine k_ 5 ?_;refine ls (op (p_mkif underlying137 rfl) rfl) ?_;refine ls (o_mclone func118 Ψ Ψ Ψ Ψ rfl Θ rfl) ?_;refine le ?_; intro b7;refine ls (op (p_tas underlying137 rfl) rfl) ?_;refine k_ 5 ?_;exact rR [0, 0] b7
theorem c_tCopy (p b : Nat) (T : List File) : Con Tryz.prog 77 [pT p] [box p 139 [.map (some b)], tr b T] [] (Nat × Nat) (fun y => pT y.1) (fun y => [box y.1 139 [.map (some y.2)], tr y.2 T, box p 139 [.map (some b)], tr b T]) (fun _ => []) := by
 refine con func77 rfl ntmps77 rfl ?_;intro M0 F0 w0;refine k_ 8 ?_;refine ls (op (p_nilck rfl) rfl) ?_;refine k_ 2 ?_;refine lC [1] call133 (c_mClone b T) ?_; intro b7;refine k_ 1 ?_;refine ls (o_box rfl rfl rfl) ?_;refine le ?_; intro b9;refine k_ 5 ?_;exact rR [0, 0, 1, 0] (b9, b7)
theorem mapk (pre : List File) (k : ByteArray) (l : List ByteArray) : (pre ++ [(k, l)]).map (·.1) = pre.map (·.1) ++ [k] := by simp
theorem c_mKeys (b : Nat) : Con Tryz.prog 153 [.map (some b)] [] [] Nat (fun q => .func (.func 210) #[] #[pT q]) (fun q => [box q 137 [.map (some b)]]) (fun _ => []) := by
 refine con func153 rfl ntmps153 rfl ?_;intro M0 F0 w0;refine k_ 2 ?_;refine ls (o_box rfl rfl rfl) ?_;refine le ?_; intro b1;refine k_ 5 ?_;refine ls (op (p_mkf rfl) rfl) ?_;refine k_ 5 ?_;exact rR [0] b1
theorem c_mKeys1 (b : Nat) (T : List File) (q : Nat) : Iter Tryz.prog 210 [pT q] (fun x : File => [.string x.1]) (fun _ => []) (fun pre x => x ∈ T ∧ x ∉ pre ∧ pre.length < T.length) (fun xs => xs.Perm T) [box q 137 [.map (some b)], tr b T] [] := by
 intro lp J Jx hY;refine con func210 rfl ntmps210 rfl ?_;intro M0 F0 w0;refine k_ 3 ?_;refine ls (o_mrange (i := 2) underlying137 rfl rfl rfl) ?_;refine le ?_; intro r5;refine k_ 3 ?_;refine cl (ι := List File) (fun i => St M0 F0 w0 14 [(0, .func (.yield lp) #[] #[]), (1, pT q), (5, pT r5)] [mit b r5 T i, J i, box q 137 [.map (some b)]] []) (fun i => T.length - (i).length) [] (wK [0, 0, 0]) ?_;rintro K;refine cmono (S' := St M0 F0 w0 14 [(0, .func (.yield lp) #[] #[]), (1, pT q), (5, pT r5)] [mit b r5 T K, J K, box q 137 [.map (some b)]] []) Ħ ?_;refine cs ?_;refine cpure (St.mit Θ) ?_;rintro ⟨hso, hKn, hKT⟩;rcases Classical.em (∃ x ∈ T, x ∉ K) with hK | hK
 ·
  have hlt := nodup_lt hKn hKT hK;refine cr ?_;refine ls (o_mnextS (i := 0) rfl rfl hK rfl) ?_;refine le ?_; rintro ⟨⟨⟨k, l⟩, y⟩, hxT, hxK⟩;refine k_ 4 ?_;refine cc rfl (fun h => ?_) (fun h => by cases h);refine k_ 5 ?_;refine ls (o_mentry rfl Θ rfl) ?_;refine le ?_; rintro y8;refine k_ 8 ?_;refine ls (o_yield (i := 1) rfl (hY K (k, l) ⟨hxT, hxK, hlt⟩) rfl rfl Ω rfl) ?_;refine le ?_; intro bb;refine k_ 3 ?_;refine cc rfl ?_ ?_
  ·intro h13;obtain rfl : false = bb := (by cases bb <;> first | rfl | (simp at h13))
   refine k_ 2 ?_;refine nmono (conv (i := 1) rfl mit_tr) ?_;exact rR [1, 1, 0] ⟨none, fun _ h => by cases h⟩
  ·intro h13;obtain rfl : true = bb := (by cases bb <;> first | rfl | (simp at h13))
   refine k_ 2 ?_;refine nnext (K ++ [(k, l)]) (by simp; omega) (wK [1, 0, 0])
 ·
  refine cr ?_;refine ls (o_mnextN rfl Θ hK rfl) ?_;refine k_ 4 ?_;refine cc rfl (fun h => by cases h) (fun h => ?_);refine k_ 4 ?_;refine nmono (conv (i := 0) rfl mit_tr) ?_;exact rR [1, 1, 0] ⟨some K, fun xs h => by cases h; exact perm_of_all hso hKn hKT hK⟩
theorem c_appSeq (b q : Nat) (T : List File) (hn : T.length ≤ 2000000) : Con Tryz.prog 213 [.slice none 0 0, .func (.func 210) #[] #[pT q]] [box q 137 [.map (some b)], tr b T] [] {y : (Option Addr × Nat) × List ByteArray // y.2.Perm (T.map (·.1))} (fun y => .slice y.1.1.1 y.1.2.length y.1.1.2) (fun y => [row 9 y.1.1.1 y.1.1.2 y.1.2, box q 137 [.map (some b)], tr b T]) (fun _ => []) := by
 refine con func213 rfl ntmps213 rfl ?_;intro M0 F0 w0;refine k_ 2 ?_;refine ls (o_box rfl rfl rfl) ?_;refine le ?_; intro b2;refine k_ 5 ?_;refine cmono (fun a w h => nilRow (α := ByteArray) 9 h) ?_;refine k_ 5 ?_;refine crng (ι := fun _ => Option Addr × Nat) rfl call210 (c_mKeys1 b T q) (fun _ => rfl) rfl (fun pre i => [box b2 73 [.slice i.1 (pre.map (·.1)).length i.2], row 9 i.1 i.2 (pre.map (·.1))]) (fun _ _ => []) ((none, 0)) (Y := Empty) (fun _ => []) (fun _ => []) (is := [1, 0, 0, 0]) rfl Ω Ω ?_ ?_ ?_
 ·
  rintro M0 F0 w0 lp κ pre ⟨k, l⟩ ⟨hxT, hxn, hlt⟩ ⟨A, c⟩;refine cmono (S' := St M0 F0 w0 ⟨13, []⟩ [(2, pT b2), (7, .string k)] [lrec lp κ .ready none, box b2 73 [.slice A (pre.map (·.1)).length c], row 9 A c (pre.map (·.1))] []) (wk0 Φ Ω) ?_;refine k_ 3 ?_;refine nbegin (i := 0) rfl ?_;refine k_ 4 ?_;refine ls (o_bsl [k] underlying73 sizeOf9 zeroValue9 rfl (Enum.t Enum.d) (RV.t () rfl Sub.d RV.d) rfl (by decide) (by decide) rfl) ?_;refine le ?_; intro b10;refine lmono (fun a w h => Go.Sx.freeze (i := 0) rfl h) ?_;refine ls (o_app (is := [2]) underlying73 inf9 rfl (by decide) (by decide) rfl rfl (by simp only [List.length_map, List.length_cons, List.length_nil]; omega) (fun h => by cases h) rfl Ω rfl) ?_;refine le ?_; rintro ⟨A2, c2⟩;refine k_ 3 ?_;refine nmono (fun a w h => by rw [← mapk pre k l] at h; exact h) ?_;exact nround (A2, c2) (is := [1, 1, 0]) rfl Ω
 ·
  rintro D xs hC ⟨A, c⟩;refine k_ 10 ?_;refine rretm (Dfr.c (i := 4) rfl Dfr.d) (is := [1, 1, 1]) ⟨((A, c), xs.map (·.1)), hC.map _⟩ (Or.inl rfl) (Res.t rfl Res.d) (rfl) rfl Ω
 ·
  intro D y;exact y.elim
theorem c_tCollect (b q : Nat) (T : List File) (hn : T.length ≤ 2000000) : Con Tryz.prog 156 [.func (.func 210) #[] #[pT q]] [box q 137 [.map (some b)], tr b T] [] {y : (Option Addr × Nat) × List ByteArray // y.2.Perm (T.map (·.1))} (fun y => .slice y.1.1.1 y.1.2.length y.1.1.2) (fun y => [row 9 y.1.1.1 y.1.1.2 y.1.2, box q 137 [.map (some b)], tr b T]) (fun _ => []) := by
 refine con func156 rfl ntmps156 rfl ?_;intro M0 F0 w0;refine k_ 8 ?_;refine lC [0, 0] call213 (c_appSeq b q T hn) ?_; intro x4;refine k_ 5 ?_;exact rR [0, 0, 0] x4
theorem c_tSorted (b q : Nat) (T : List File) (hn : T.length ≤ 2000000) : Con Tryz.prog 102 [.func (.func 210) #[] #[pT q]] [box q 137 [.map (some b)], tr b T] [] (Option Addr × Nat) (fun y => .slice y.1 T.length y.2) (fun y => [row 9 y.1 y.2 (T.map (·.1)), box q 137 [.map (some b)], tr b T]) (fun _ => []) := by
 refine con func102 rfl ntmps102 rfl ?_;intro M0 F0 w0;refine k_ 8 ?_;refine lC [0, 0] call156 (c_tCollect b q T hn) ?_; rintro ⟨⟨⟨A5, c5⟩, ks⟩, hks⟩;refine k_ 4 ?_;dsimp only at hks;refine cpure (St.tr (b := b) Θ) ?_;intro hso;have hlen : ks.length = T.length := (by have := hks.length_eq; simpa using this);have hsb := sortB_keys hso hks;refine k_ 2 ?_;refine lC [0] call157 (l_Sort 9 A5 c5 ks (by omega)) ?_; intro u7;refine k_ 3 ?_;rw [hsb];refine k_ 7 ?_;refine rret (is := [0, 0, 0]) (A5, c5) (Or.inl rfl) (Res.t rfl Res.d) ?_ rfl Ω;simp [packV, hlen]
theorem c_tNames (p b : Nat) (T : List File) (hn : T.length ≤ 2000000) : Con Tryz.prog 97 [pT p] [box p 139 [.map (some b)], tr b T] [] (Option Addr × Nat) (fun y => .slice y.1 T.length y.2) (fun y => [row 9 y.1 y.2 (T.map (·.1)), box p 139 [.map (some b)], tr b T]) (fun _ => []) := by
 refine con func97 rfl ntmps97 rfl ?_;intro M0 F0 w0;refine k_ 8 ?_;refine ls (op (p_nilck rfl) rfl) ?_;refine k_ 2 ?_;refine lC [] call153 (c_mKeys b) ?_; intro b7;refine lC [0, 1] call102 (c_tSorted b b7 T hn) ?_; rintro ⟨A8, c8⟩;refine k_ 5 ?_;exact rR [0, 2, 1] (A8, c8)
end Go.Proofs.YtbhnolfcdcpbkaaGreatDoor.X
end
