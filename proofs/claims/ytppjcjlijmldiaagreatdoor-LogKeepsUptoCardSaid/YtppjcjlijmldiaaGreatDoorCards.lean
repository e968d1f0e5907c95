/-
  DERIVED. GIVEN WITH THE SEED: THE CARDS: each row of YtppjcjlijmldiaaGreatDoorRows.lean that lists a variable, with what it lists TIED to the program's text (the seventh form; the later family's looks); each row that meets fmt, with fmt's text TOLD by the authors' own Lean function (tested against real Go, not proved from fmt's source: count such statements apart). THE CARD IS WHAT COUNTS. Prove the row's statement (the work); the ties are given (YtppjcjlijmldiaaGreatDoorTie.lean); close each card by the builder's one call (the guide's Derived/Test/ToyasCard.lean, 'card_holds'). Laid BY PROGRAM, IN A SANDBOX (cutbox-door.mjs). By AI agents, Wed Nov 11 2026. No macro, syntax, notation, axiom, sorry.
-/
import Derived.Test.YtppjcjlijmldiaaGreatDoorRows
import GoSem.ClaimSeven
namespace Go.Proofs.YtppjcjlijmldiaaGreatDoor
namespace Rows

/-- THE TIED CARD OF 'quiltworklaw08.LogAll'. -/
def logAllCard : Claim7 := { stood := { row := logAllRow, standIns := [], harness := (true, "19a1106d3508fec74ffed0e0de2add671dbb1e83231b7a263daed3b3f0e55ad0"), looks := true }, kinds := [], alts := [], laidByText := true, laidKinds := [.data, .data, .data, .data, .pinned], laidTests := true, laidLooks := .later }
def LogAllCardSaid : Prop := Claim7.holds Tryz.pinned (.plain (OpenSpec.ofChange logAllSpec)) logAllCard

/-- THE TIED CARD OF 'quiltworklaw08.LogGets'. -/
def logGetsCard : Claim7 := { stood := { row := logGetsRow, standIns := [], harness := (true, "19a1106d3508fec74ffed0e0de2add671dbb1e83231b7a263daed3b3f0e55ad0"), looks := true }, kinds := [], alts := [], laidByText := true, laidKinds := [.data, .data, .data, .data, .pinned], laidTests := true, laidLooks := .later }
def LogGetsCardSaid : Prop := Claim7.holds Tryz.pinned (.plain (OpenSpec.ofChange logGetsSpec)) logGetsCard

/-- THE TIED CARD OF 'quiltworklaw08.LogBack'. -/
def logBackCard : Claim7 := { stood := { row := logBackRow, standIns := [], harness := (true, "19a1106d3508fec74ffed0e0de2add671dbb1e83231b7a263daed3b3f0e55ad0"), looks := true }, kinds := [], alts := [], laidByText := true, laidKinds := [.data, .data, .data, .data, .pinned], laidTests := true, laidLooks := .later }
def LogBackCardSaid : Prop := Claim7.holds Tryz.pinned (.plain (OpenSpec.ofChange logBackSpec)) logBackCard

/-- THE TIED CARD OF 'quiltworklaw08.LogDrops'. -/
def logDropsCard : Claim7 := { stood := { row := logDropsRow, standIns := [], harness := (true, "19a1106d3508fec74ffed0e0de2add671dbb1e83231b7a263daed3b3f0e55ad0"), looks := true }, kinds := [], alts := [], laidByText := true, laidKinds := [.data, .data, .data, .data, .pinned], laidTests := true, laidLooks := .later }
def LogDropsCardSaid : Prop := Claim7.holds Tryz.pinned (.plain (OpenSpec.ofChange logDropsSpec)) logDropsCard

/-- THE TIED CARD OF 'quiltworklaw08.LogKeeps'. -/
def logKeepsCard : Claim7 := { stood := { row := logKeepsRow, standIns := [], harness := (true, "19a1106d3508fec74ffed0e0de2add671dbb1e83231b7a263daed3b3f0e55ad0"), looks := true }, kinds := [], alts := [], laidByText := true, laidKinds := [.data, .data, .data, .data, .pinned], laidTests := true, laidLooks := .later }
def LogKeepsCardSaid : Prop := Claim7.holds Tryz.pinned (.plain (OpenSpec.ofChange logKeepsSpec)) logKeepsCard

/-- THE TIED CARD OF 'quiltworklaw08.LogTakes'. -/
def logTakesCard : Claim7 := { stood := { row := logTakesRow, standIns := [], harness := (true, "19a1106d3508fec74ffed0e0de2add671dbb1e83231b7a263daed3b3f0e55ad0"), looks := true }, kinds := [], alts := [], laidByText := true, laidKinds := [.data, .data, .data, .data, .pinned], laidTests := true, laidLooks := .later }
def LogTakesCardSaid : Prop := Claim7.holds Tryz.pinned (.plain (OpenSpec.ofChange logTakesSpec)) logTakesCard

/-- THE TIED CARD OF 'quiltworklaw08.LogSame'. -/
def logSameCard : Claim7 := { stood := { row := logSameRow, standIns := [], harness := (true, "19a1106d3508fec74ffed0e0de2add671dbb1e83231b7a263daed3b3f0e55ad0"), looks := true }, kinds := [], alts := [], laidByText := true, laidKinds := [.data, .data, .data, .data, .pinned], laidTests := true, laidLooks := .later }
def LogSameCardSaid : Prop := Claim7.holds Tryz.pinned (.plain (OpenSpec.ofChange logSameSpec)) logSameCard

/-- THE SECOND FORM's CARD OF 'quiltworklaw08.LogAll'. -/
def logAllUptoCard : Claim7 := { stood := { row := logAllUptoRow, standIns := [], harness := (true, "19a1106d3508fec74ffed0e0de2add671dbb1e83231b7a263daed3b3f0e55ad0"), looks := true }, kinds := [], alts := [], laidByText := true, laidKinds := [.data, .data, .data, .data, .pinned], laidTests := true, laidLooks := .later }
def LogAllUptoCardSaid : Prop := Claim7.holds Tryz.pinned (.plain (OpenSpec.upto logAllSpec)) logAllUptoCard

/-- THE SECOND FORM's CARD OF 'quiltworklaw08.LogGets'. -/
def logGetsUptoCard : Claim7 := { stood := { row := logGetsUptoRow, standIns := [], harness := (true, "19a1106d3508fec74ffed0e0de2add671dbb1e83231b7a263daed3b3f0e55ad0"), looks := true }, kinds := [], alts := [], laidByText := true, laidKinds := [.data, .data, .data, .data, .pinned], laidTests := true, laidLooks := .later }
def LogGetsUptoCardSaid : Prop := Claim7.holds Tryz.pinned (.plain (OpenSpec.upto logGetsSpec)) logGetsUptoCard

/-- THE SECOND FORM's CARD OF 'quiltworklaw08.LogBack'. -/
def logBackUptoCard : Claim7 := { stood := { row := logBackUptoRow, standIns := [], harness := (true, "19a1106d3508fec74ffed0e0de2add671dbb1e83231b7a263daed3b3f0e55ad0"), looks := true }, kinds := [], alts := [], laidByText := true, laidKinds := [.data, .data, .data, .data, .pinned], laidTests := true, laidLooks := .later }
def LogBackUptoCardSaid : Prop := Claim7.holds Tryz.pinned (.plain (OpenSpec.upto logBackSpec)) logBackUptoCard

/-- THE SECOND FORM's CARD OF 'quiltworklaw08.LogDrops'. -/
def logDropsUptoCard : Claim7 := { stood := { row := logDropsUptoRow, standIns := [], harness := (true, "19a1106d3508fec74ffed0e0de2add671dbb1e83231b7a263daed3b3f0e55ad0"), looks := true }, kinds := [], alts := [], laidByText := true, laidKinds := [.data, .data, .data, .data, .pinned], laidTests := true, laidLooks := .later }
def LogDropsUptoCardSaid : Prop := Claim7.holds Tryz.pinned (.plain (OpenSpec.upto logDropsSpec)) logDropsUptoCard

/-- THE SECOND FORM's CARD OF 'quiltworklaw08.LogKeeps'. -/
def logKeepsUptoCard : Claim7 := { stood := { row := logKeepsUptoRow, standIns := [], harness := (true, "19a1106d3508fec74ffed0e0de2add671dbb1e83231b7a263daed3b3f0e55ad0"), looks := true }, kinds := [], alts := [], laidByText := true, laidKinds := [.data, .data, .data, .data, .pinned], laidTests := true, laidLooks := .later }
def LogKeepsUptoCardSaid : Prop := Claim7.holds Tryz.pinned (.plain (OpenSpec.upto logKeepsSpec)) logKeepsUptoCard

/-- THE SECOND FORM's CARD OF 'quiltworklaw08.LogTakes'. -/
def logTakesUptoCard : Claim7 := { stood := { row := logTakesUptoRow, standIns := [], harness := (true, "19a1106d3508fec74ffed0e0de2add671dbb1e83231b7a263daed3b3f0e55ad0"), looks := true }, kinds := [], alts := [], laidByText := true, laidKinds := [.data, .data, .data, .data, .pinned], laidTests := true, laidLooks := .later }
def LogTakesUptoCardSaid : Prop := Claim7.holds Tryz.pinned (.plain (OpenSpec.upto logTakesSpec)) logTakesUptoCard

/-- THE SECOND FORM's CARD OF 'quiltworklaw08.LogSame'. -/
def logSameUptoCard : Claim7 := { stood := { row := logSameUptoRow, standIns := [], harness := (true, "19a1106d3508fec74ffed0e0de2add671dbb1e83231b7a263daed3b3f0e55ad0"), looks := true }, kinds := [], alts := [], laidByText := true, laidKinds := [.data, .data, .data, .data, .pinned], laidTests := true, laidLooks := .later }
def LogSameUptoCardSaid : Prop := Claim7.holds Tryz.pinned (.plain (OpenSpec.upto logSameSpec)) logSameUptoCard
end Rows
end Go.Proofs.YtppjcjlijmldiaaGreatDoor
