/-
  DERIVED. GIVEN WITH THE SEED: THE CARDS: each row of YtdbiillompeclaaDoorRows.lean that lists a variable, with what it lists TIED to the program's text (the seventh form; the later family's looks); each row that meets fmt, with fmt's text TOLD by the authors' own Lean function (tested against real Go, not proved from fmt's source: count such statements apart). THE CARD IS WHAT COUNTS. Prove the row's statement (the work); the ties are given (YtdbiillompeclaaDoorTie.lean); close each card by the builder's one call (the guide's Derived/Test/ToyasCard.lean, 'card_holds'). Laid BY PROGRAM, IN A SANDBOX (cutbox-door.mjs). By AI agents, Wed Nov 11 2026. No macro, syntax, notation, axiom, sorry.
-/
import Derived.Test.YtdbiillompeclaaDoorRows
import GoSem.ClaimSeven
namespace Go.Proofs.YtdbiillompeclaaDoor
namespace Rows

/-- THE TIED CARD OF 'quiltworklaw06.DiffCommon'. -/
def diffCommonCard : Claim7 := { stood := { row := diffCommonRow, standIns := [], harness := (true, "f9a98cdfe1d7e286c4323ce6d197564c892048f3a22fa9f43e081eed2bbcc3d0"), looks := true }, kinds := [], alts := [], laidByText := true, laidKinds := [.data, .pinned], laidTests := true, laidLooks := .later }
def DiffCommonCardSaid : Prop := Claim7.holds Tryd.pinned (.plain (OpenSpec.ofChange diffCommonSpec)) diffCommonCard

/-- THE TIED CARD OF 'quiltworklaw06.DiffLeast'. -/
def diffLeastCard : Claim7 := { stood := { row := diffLeastRow, standIns := [], harness := (true, "f9a98cdfe1d7e286c4323ce6d197564c892048f3a22fa9f43e081eed2bbcc3d0"), looks := true }, kinds := [], alts := [], laidByText := true, laidKinds := [.data, .pinned], laidTests := true, laidLooks := .later }
def DiffLeastCardSaid : Prop := Claim7.holds Tryd.pinned (.plain (OpenSpec.ofChange diffLeastSpec)) diffLeastCard

/-- THE TIED CARD OF 'quiltworklaw06.DiffLong'. -/
def diffLongCard : Claim7 := { stood := { row := diffLongRow, standIns := [], harness := (true, "f9a98cdfe1d7e286c4323ce6d197564c892048f3a22fa9f43e081eed2bbcc3d0"), looks := true }, kinds := [], alts := [], laidByText := true, laidKinds := [.data, .pinned], laidTests := true, laidLooks := .later }
def DiffLongCardSaid : Prop := Claim7.holds Tryd.pinned (.plain (OpenSpec.ofChange diffLongSpec)) diffLongCard

/-- THE TIED CARD OF 'quiltworklaw06.DiffTurned'. -/
def diffTurnedCard : Claim7 := { stood := { row := diffTurnedRow, standIns := [], harness := (true, "f9a98cdfe1d7e286c4323ce6d197564c892048f3a22fa9f43e081eed2bbcc3d0"), looks := true }, kinds := [], alts := [], laidByText := true, laidKinds := [.data, .pinned], laidTests := true, laidLooks := .later }
def DiffTurnedCardSaid : Prop := Claim7.holds Tryd.pinned (.plain (OpenSpec.ofChange diffTurnedSpec)) diffTurnedCard

/-- THE TIED CARD OF 'quiltworklaw06.DiffApart'. -/
def diffApartCard : Claim7 := { stood := { row := diffApartRow, standIns := [], harness := (true, "f9a98cdfe1d7e286c4323ce6d197564c892048f3a22fa9f43e081eed2bbcc3d0"), looks := true }, kinds := [], alts := [], laidByText := true, laidKinds := [.data, .pinned], laidTests := true, laidLooks := .later }
def DiffApartCardSaid : Prop := Claim7.holds Tryd.pinned (.plain (OpenSpec.ofChange diffApartSpec)) diffApartCard

/-- THE SECOND FORM's CARD OF 'quiltworklaw06.DiffCommon'. -/
def diffCommonUptoCard : Claim7 := { stood := { row := diffCommonUptoRow, standIns := [], harness := (true, "f9a98cdfe1d7e286c4323ce6d197564c892048f3a22fa9f43e081eed2bbcc3d0"), looks := true }, kinds := [], alts := [], laidByText := true, laidKinds := [.data, .pinned], laidTests := true, laidLooks := .later }
def DiffCommonUptoCardSaid : Prop := Claim7.holds Tryd.pinned (.plain (OpenSpec.upto diffCommonSpec)) diffCommonUptoCard

/-- THE SECOND FORM's CARD OF 'quiltworklaw06.DiffLeast'. -/
def diffLeastUptoCard : Claim7 := { stood := { row := diffLeastUptoRow, standIns := [], harness := (true, "f9a98cdfe1d7e286c4323ce6d197564c892048f3a22fa9f43e081eed2bbcc3d0"), looks := true }, kinds := [], alts := [], laidByText := true, laidKinds := [.data, .pinned], laidTests := true, laidLooks := .later }
def DiffLeastUptoCardSaid : Prop := Claim7.holds Tryd.pinned (.plain (OpenSpec.upto diffLeastSpec)) diffLeastUptoCard

/-- THE SECOND FORM's CARD OF 'quiltworklaw06.DiffLong'. -/
def diffLongUptoCard : Claim7 := { stood := { row := diffLongUptoRow, standIns := [], harness := (true, "f9a98cdfe1d7e286c4323ce6d197564c892048f3a22fa9f43e081eed2bbcc3d0"), looks := true }, kinds := [], alts := [], laidByText := true, laidKinds := [.data, .pinned], laidTests := true, laidLooks := .later }
def DiffLongUptoCardSaid : Prop := Claim7.holds Tryd.pinned (.plain (OpenSpec.upto diffLongSpec)) diffLongUptoCard

/-- THE SECOND FORM's CARD OF 'quiltworklaw06.DiffTurned'. -/
def diffTurnedUptoCard : Claim7 := { stood := { row := diffTurnedUptoRow, standIns := [], harness := (true, "f9a98cdfe1d7e286c4323ce6d197564c892048f3a22fa9f43e081eed2bbcc3d0"), looks := true }, kinds := [], alts := [], laidByText := true, laidKinds := [.data, .pinned], laidTests := true, laidLooks := .later }
def DiffTurnedUptoCardSaid : Prop := Claim7.holds Tryd.pinned (.plain (OpenSpec.upto diffTurnedSpec)) diffTurnedUptoCard

/-- THE SECOND FORM's CARD OF 'quiltworklaw06.DiffApart'. -/
def diffApartUptoCard : Claim7 := { stood := { row := diffApartUptoRow, standIns := [], harness := (true, "f9a98cdfe1d7e286c4323ce6d197564c892048f3a22fa9f43e081eed2bbcc3d0"), looks := true }, kinds := [], alts := [], laidByText := true, laidKinds := [.data, .pinned], laidTests := true, laidLooks := .later }
def DiffApartUptoCardSaid : Prop := Claim7.holds Tryd.pinned (.plain (OpenSpec.upto diffApartSpec)) diffApartUptoCard
end Rows
end Go.Proofs.YtdbiillompeclaaDoor
