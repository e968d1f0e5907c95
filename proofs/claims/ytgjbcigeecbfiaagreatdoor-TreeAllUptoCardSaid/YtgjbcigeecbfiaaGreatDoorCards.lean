/-
  DERIVED. GIVEN WITH THE SEED: THE CARDS: each row of YtgjbcigeecbfiaaGreatDoorRows.lean that lists a variable, with what it lists TIED to the program's text (the seventh form; the later family's looks); each row that meets fmt, with fmt's text TOLD by the authors' own Lean function (tested against real Go, not proved from fmt's source: count such statements apart). THE CARD IS WHAT COUNTS. Prove the row's statement (the work); the ties are given (YtgjbcigeecbfiaaGreatDoorTie.lean); close each card by the builder's one call (the guide's Derived/Test/ToyasCard.lean, 'card_holds'). Laid BY PROGRAM, IN A SANDBOX (cutbox-door.mjs). By AI agents, Wed Nov 11 2026. No macro, syntax, notation, axiom, sorry.
-/
import Derived.Test.YtgjbcigeecbfiaaGreatDoorRows
import GoSem.ClaimSeven
namespace Go.Proofs.YtgjbcigeecbfiaaGreatDoor
namespace Rows

/-- THE TIED CARD OF 'quiltworklaw02.TreeSame'. -/
def treeSameCard : Claim7 := { stood := { row := treeSameRow, standIns := [], harness := (true, "20880db7db1ecaf8774748dfc9cbf16fb8493917ae8a316ce2ab511e2c93592e"), looks := true }, kinds := [], alts := [], laidByText := true, laidKinds := [.data, .data, .data, .data, .pinned], laidTests := true, laidLooks := .later }
def TreeSameCardSaid : Prop := Claim7.holds Tryz.pinned (.plain (OpenSpec.ofChange treeSameSpec)) treeSameCard

/-- THE TIED CARD OF 'quiltworklaw02.TreeAll'. -/
def treeAllCard : Claim7 := { stood := { row := treeAllRow, standIns := [], harness := (true, "20880db7db1ecaf8774748dfc9cbf16fb8493917ae8a316ce2ab511e2c93592e"), looks := true }, kinds := [], alts := [], laidByText := true, laidKinds := [.data, .data, .data, .data, .pinned], laidTests := true, laidLooks := .later }
def TreeAllCardSaid : Prop := Claim7.holds Tryz.pinned (.plain (OpenSpec.ofChange treeAllSpec)) treeAllCard

/-- THE TIED CARD OF 'quiltworklaw02.TreeNames'. -/
def treeNamesCard : Claim7 := { stood := { row := treeNamesRow, standIns := [], harness := (true, "20880db7db1ecaf8774748dfc9cbf16fb8493917ae8a316ce2ab511e2c93592e"), looks := true }, kinds := [], alts := [], laidByText := true, laidKinds := [.data, .data, .data, .data, .pinned], laidTests := true, laidLooks := .later }
def TreeNamesCardSaid : Prop := Claim7.holds Tryz.pinned (.plain (OpenSpec.ofChange treeNamesSpec)) treeNamesCard

/-- THE TIED CARD OF 'quiltworklaw02.TreeBack'. -/
def treeBackCard : Claim7 := { stood := { row := treeBackRow, standIns := [], harness := (true, "20880db7db1ecaf8774748dfc9cbf16fb8493917ae8a316ce2ab511e2c93592e"), looks := true }, kinds := [], alts := [], laidByText := true, laidKinds := [.data, .data, .data, .data, .pinned], laidTests := true, laidLooks := .later }
def TreeBackCardSaid : Prop := Claim7.holds Tryz.pinned (.plain (OpenSpec.ofChange treeBackSpec)) treeBackCard

/-- THE TIED CARD OF 'quiltworklaw02.TreeOwn'. -/
def treeOwnCard : Claim7 := { stood := { row := treeOwnRow, standIns := [], harness := (true, "20880db7db1ecaf8774748dfc9cbf16fb8493917ae8a316ce2ab511e2c93592e"), looks := true }, kinds := [], alts := [], laidByText := true, laidKinds := [.data, .data, .data, .data, .pinned], laidTests := true, laidLooks := .later }
def TreeOwnCardSaid : Prop := Claim7.holds Tryz.pinned (.plain (OpenSpec.ofChange treeOwnSpec)) treeOwnCard

/-- THE TIED CARD OF 'quiltworklaw02.TreeMoves'. -/
def treeMovesCard : Claim7 := { stood := { row := treeMovesRow, standIns := [], harness := (true, "20880db7db1ecaf8774748dfc9cbf16fb8493917ae8a316ce2ab511e2c93592e"), looks := true }, kinds := [], alts := [], laidByText := true, laidKinds := [.data, .data, .data, .data, .pinned], laidTests := true, laidLooks := .later }
def TreeMovesCardSaid : Prop := Claim7.holds Tryz.pinned (.plain (OpenSpec.ofChange treeMovesSpec)) treeMovesCard

/-- THE TIED CARD OF 'quiltworklaw03.PrimRight'. -/
def primRightCard : Claim7 := { stood := { row := primRightRow, standIns := [], harness := (true, "20880db7db1ecaf8774748dfc9cbf16fb8493917ae8a316ce2ab511e2c93592e"), looks := true }, kinds := [], alts := [], laidByText := true, laidKinds := [.data, .data, .data, .data, .pinned], laidTests := true, laidLooks := .later }
def PrimRightCardSaid : Prop := Claim7.holds Tryz.pinned (.plain (OpenSpec.ofChange primRightSpec)) primRightCard

/-- THE TIED CARD OF 'quiltworklaw03.PrimSame'. -/
def primSameCard : Claim7 := { stood := { row := primSameRow, standIns := [], harness := (true, "20880db7db1ecaf8774748dfc9cbf16fb8493917ae8a316ce2ab511e2c93592e"), looks := true }, kinds := [], alts := [], laidByText := true, laidKinds := [.data, .data, .data, .data, .pinned], laidTests := true, laidLooks := .later }
def PrimSameCardSaid : Prop := Claim7.holds Tryz.pinned (.plain (OpenSpec.ofChange primSameSpec)) primSameCard

/-- THE TIED CARD OF 'quiltworklaw03.PrimTwice'. -/
def primTwiceCard : Claim7 := { stood := { row := primTwiceRow, standIns := [], harness := (true, "20880db7db1ecaf8774748dfc9cbf16fb8493917ae8a316ce2ab511e2c93592e"), looks := true }, kinds := [], alts := [], laidByText := true, laidKinds := [.data, .data, .data, .data, .pinned], laidTests := true, laidLooks := .later }
def PrimTwiceCardSaid : Prop := Claim7.holds Tryz.pinned (.plain (OpenSpec.ofChange primTwiceSpec)) primTwiceCard

/-- THE TIED CARD OF 'quiltworklaw03.PrimOwn'. -/
def primOwnCard : Claim7 := { stood := { row := primOwnRow, standIns := [], harness := (true, "20880db7db1ecaf8774748dfc9cbf16fb8493917ae8a316ce2ab511e2c93592e"), looks := true }, kinds := [], alts := [], laidByText := true, laidKinds := [.data, .data, .data, .data, .pinned], laidTests := true, laidLooks := .later }
def PrimOwnCardSaid : Prop := Claim7.holds Tryz.pinned (.plain (OpenSpec.ofChange primOwnSpec)) primOwnCard

/-- THE TIED CARD OF 'quiltworklaw03.PrimApplies'. -/
def primAppliesCard : Claim7 := { stood := { row := primAppliesRow, standIns := [], harness := (true, "20880db7db1ecaf8774748dfc9cbf16fb8493917ae8a316ce2ab511e2c93592e"), looks := true }, kinds := [], alts := [], laidByText := true, laidKinds := [.data, .data, .data, .data, .pinned], laidTests := true, laidLooks := .later }
def PrimAppliesCardSaid : Prop := Claim7.holds Tryz.pinned (.plain (OpenSpec.ofChange primAppliesSpec)) primAppliesCard

/-- THE TIED CARD OF 'quiltworklaw03.PrimBack'. -/
def primBackCard : Claim7 := { stood := { row := primBackRow, standIns := [], harness := (true, "20880db7db1ecaf8774748dfc9cbf16fb8493917ae8a316ce2ab511e2c93592e"), looks := true }, kinds := [], alts := [], laidByText := true, laidKinds := [.data, .data, .data, .data, .pinned], laidTests := true, laidLooks := .later }
def PrimBackCardSaid : Prop := Claim7.holds Tryz.pinned (.plain (OpenSpec.ofChange primBackSpec)) primBackCard

/-- THE SECOND FORM's CARD OF 'quiltworklaw02.TreeSame'. -/
def treeSameUptoCard : Claim7 := { stood := { row := treeSameUptoRow, standIns := [], harness := (true, "20880db7db1ecaf8774748dfc9cbf16fb8493917ae8a316ce2ab511e2c93592e"), looks := true }, kinds := [], alts := [], laidByText := true, laidKinds := [.data, .data, .data, .data, .pinned], laidTests := true, laidLooks := .later }
def TreeSameUptoCardSaid : Prop := Claim7.holds Tryz.pinned (.plain (OpenSpec.upto treeSameSpec)) treeSameUptoCard

/-- THE SECOND FORM's CARD OF 'quiltworklaw02.TreeAll'. -/
def treeAllUptoCard : Claim7 := { stood := { row := treeAllUptoRow, standIns := [], harness := (true, "20880db7db1ecaf8774748dfc9cbf16fb8493917ae8a316ce2ab511e2c93592e"), looks := true }, kinds := [], alts := [], laidByText := true, laidKinds := [.data, .data, .data, .data, .pinned], laidTests := true, laidLooks := .later }
def TreeAllUptoCardSaid : Prop := Claim7.holds Tryz.pinned (.plain (OpenSpec.upto treeAllSpec)) treeAllUptoCard

/-- THE SECOND FORM's CARD OF 'quiltworklaw02.TreeNames'. -/
def treeNamesUptoCard : Claim7 := { stood := { row := treeNamesUptoRow, standIns := [], harness := (true, "20880db7db1ecaf8774748dfc9cbf16fb8493917ae8a316ce2ab511e2c93592e"), looks := true }, kinds := [], alts := [], laidByText := true, laidKinds := [.data, .data, .data, .data, .pinned], laidTests := true, laidLooks := .later }
def TreeNamesUptoCardSaid : Prop := Claim7.holds Tryz.pinned (.plain (OpenSpec.upto treeNamesSpec)) treeNamesUptoCard

/-- THE SECOND FORM's CARD OF 'quiltworklaw02.TreeBack'. -/
def treeBackUptoCard : Claim7 := { stood := { row := treeBackUptoRow, standIns := [], harness := (true, "20880db7db1ecaf8774748dfc9cbf16fb8493917ae8a316ce2ab511e2c93592e"), looks := true }, kinds := [], alts := [], laidByText := true, laidKinds := [.data, .data, .data, .data, .pinned], laidTests := true, laidLooks := .later }
def TreeBackUptoCardSaid : Prop := Claim7.holds Tryz.pinned (.plain (OpenSpec.upto treeBackSpec)) treeBackUptoCard

/-- THE SECOND FORM's CARD OF 'quiltworklaw02.TreeOwn'. -/
def treeOwnUptoCard : Claim7 := { stood := { row := treeOwnUptoRow, standIns := [], harness := (true, "20880db7db1ecaf8774748dfc9cbf16fb8493917ae8a316ce2ab511e2c93592e"), looks := true }, kinds := [], alts := [], laidByText := true, laidKinds := [.data, .data, .data, .data, .pinned], laidTests := true, laidLooks := .later }
def TreeOwnUptoCardSaid : Prop := Claim7.holds Tryz.pinned (.plain (OpenSpec.upto treeOwnSpec)) treeOwnUptoCard

/-- THE SECOND FORM's CARD OF 'quiltworklaw02.TreeMoves'. -/
def treeMovesUptoCard : Claim7 := { stood := { row := treeMovesUptoRow, standIns := [], harness := (true, "20880db7db1ecaf8774748dfc9cbf16fb8493917ae8a316ce2ab511e2c93592e"), looks := true }, kinds := [], alts := [], laidByText := true, laidKinds := [.data, .data, .data, .data, .pinned], laidTests := true, laidLooks := .later }
def TreeMovesUptoCardSaid : Prop := Claim7.holds Tryz.pinned (.plain (OpenSpec.upto treeMovesSpec)) treeMovesUptoCard

/-- THE SECOND FORM's CARD OF 'quiltworklaw03.PrimRight'. -/
def primRightUptoCard : Claim7 := { stood := { row := primRightUptoRow, standIns := [], harness := (true, "20880db7db1ecaf8774748dfc9cbf16fb8493917ae8a316ce2ab511e2c93592e"), looks := true }, kinds := [], alts := [], laidByText := true, laidKinds := [.data, .data, .data, .data, .pinned], laidTests := true, laidLooks := .later }
def PrimRightUptoCardSaid : Prop := Claim7.holds Tryz.pinned (.plain (OpenSpec.upto primRightSpec)) primRightUptoCard

/-- THE SECOND FORM's CARD OF 'quiltworklaw03.PrimSame'. -/
def primSameUptoCard : Claim7 := { stood := { row := primSameUptoRow, standIns := [], harness := (true, "20880db7db1ecaf8774748dfc9cbf16fb8493917ae8a316ce2ab511e2c93592e"), looks := true }, kinds := [], alts := [], laidByText := true, laidKinds := [.data, .data, .data, .data, .pinned], laidTests := true, laidLooks := .later }
def PrimSameUptoCardSaid : Prop := Claim7.holds Tryz.pinned (.plain (OpenSpec.upto primSameSpec)) primSameUptoCard

/-- THE SECOND FORM's CARD OF 'quiltworklaw03.PrimTwice'. -/
def primTwiceUptoCard : Claim7 := { stood := { row := primTwiceUptoRow, standIns := [], harness := (true, "20880db7db1ecaf8774748dfc9cbf16fb8493917ae8a316ce2ab511e2c93592e"), looks := true }, kinds := [], alts := [], laidByText := true, laidKinds := [.data, .data, .data, .data, .pinned], laidTests := true, laidLooks := .later }
def PrimTwiceUptoCardSaid : Prop := Claim7.holds Tryz.pinned (.plain (OpenSpec.upto primTwiceSpec)) primTwiceUptoCard

/-- THE SECOND FORM's CARD OF 'quiltworklaw03.PrimOwn'. -/
def primOwnUptoCard : Claim7 := { stood := { row := primOwnUptoRow, standIns := [], harness := (true, "20880db7db1ecaf8774748dfc9cbf16fb8493917ae8a316ce2ab511e2c93592e"), looks := true }, kinds := [], alts := [], laidByText := true, laidKinds := [.data, .data, .data, .data, .pinned], laidTests := true, laidLooks := .later }
def PrimOwnUptoCardSaid : Prop := Claim7.holds Tryz.pinned (.plain (OpenSpec.upto primOwnSpec)) primOwnUptoCard

/-- THE SECOND FORM's CARD OF 'quiltworklaw03.PrimApplies'. -/
def primAppliesUptoCard : Claim7 := { stood := { row := primAppliesUptoRow, standIns := [], harness := (true, "20880db7db1ecaf8774748dfc9cbf16fb8493917ae8a316ce2ab511e2c93592e"), looks := true }, kinds := [], alts := [], laidByText := true, laidKinds := [.data, .data, .data, .data, .pinned], laidTests := true, laidLooks := .later }
def PrimAppliesUptoCardSaid : Prop := Claim7.holds Tryz.pinned (.plain (OpenSpec.upto primAppliesSpec)) primAppliesUptoCard

/-- THE SECOND FORM's CARD OF 'quiltworklaw03.PrimBack'. -/
def primBackUptoCard : Claim7 := { stood := { row := primBackUptoRow, standIns := [], harness := (true, "20880db7db1ecaf8774748dfc9cbf16fb8493917ae8a316ce2ab511e2c93592e"), looks := true }, kinds := [], alts := [], laidByText := true, laidKinds := [.data, .data, .data, .data, .pinned], laidTests := true, laidLooks := .later }
def PrimBackUptoCardSaid : Prop := Claim7.holds Tryz.pinned (.plain (OpenSpec.upto primBackSpec)) primBackUptoCard
end Rows
end Go.Proofs.YtgjbcigeecbfiaaGreatDoor
