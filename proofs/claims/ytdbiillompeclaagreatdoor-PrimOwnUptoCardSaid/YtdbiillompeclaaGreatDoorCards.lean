/-
  DERIVED. GIVEN WITH THE SEED: THE CARDS: each row of YtdbiillompeclaaGreatDoorRows.lean that lists a variable, with what it lists TIED to the program's text (the seventh form; the later family's looks); each row that meets fmt, with fmt's text TOLD by the authors' own Lean function (tested against real Go, not proved from fmt's source: count such statements apart). THE CARD IS WHAT COUNTS. Prove the row's statement (the work); the ties are given (YtdbiillompeclaaGreatDoorTie.lean); close each card by the builder's one call (the guide's Derived/Test/ToyasCard.lean, 'card_holds'). Laid BY PROGRAM, IN A SANDBOX (cutbox-door.mjs). By AI agents, Wed Nov 11 2026. No macro, syntax, notation, axiom, sorry.
-/
import Derived.Test.YtdbiillompeclaaGreatDoorRows
import GoSem.ClaimSeven
namespace Go.Proofs.YtdbiillompeclaaGreatDoor
namespace Rows

/-- THE TIED CARD OF 'quiltworklaw07.NamedOwn'. -/
def namedOwnCard : Claim7 := { stood := { row := namedOwnRow, standIns := [], harness := (true, "a8ec782828be2c3d08348edbaa7f2760793478854d5f44021cce389ed28ce650"), looks := true }, kinds := [], alts := [], laidByText := true, laidKinds := [.data, .pinned], laidTests := true, laidLooks := .later }
def NamedOwnCardSaid : Prop := Claim7.holds Tryz.pinned (.plain (OpenSpec.ofChange namedOwnSpec)) namedOwnCard

/-- THE TIED CARD OF 'quiltworklaw06.DiffLines'. -/
def diffLinesCard : Claim7 := { stood := { row := diffLinesRow, standIns := [], harness := (true, "a8ec782828be2c3d08348edbaa7f2760793478854d5f44021cce389ed28ce650"), looks := true }, kinds := [], alts := [], laidByText := true, laidKinds := [.data, .pinned], laidTests := true, laidLooks := .later }
def DiffLinesCardSaid : Prop := Claim7.holds Tryz.pinned (.plain (OpenSpec.ofChange diffLinesSpec)) diffLinesCard

/-- THE TIED CARD OF 'quiltworklaw06.DiffTrees'. -/
def diffTreesCard : Claim7 := { stood := { row := diffTreesRow, standIns := [], harness := (true, "a8ec782828be2c3d08348edbaa7f2760793478854d5f44021cce389ed28ce650"), looks := true }, kinds := [], alts := [], laidByText := true, laidKinds := [.data, .pinned], laidTests := true, laidLooks := .later }
def DiffTreesCardSaid : Prop := Claim7.holds Tryz.pinned (.plain (OpenSpec.ofChange diffTreesSpec)) diffTreesCard

/-- THE TIED CARD OF 'quiltworklaw15.PastFits'. -/
def pastFitsCard : Claim7 := { stood := { row := pastFitsRow, standIns := [], harness := (true, "a8ec782828be2c3d08348edbaa7f2760793478854d5f44021cce389ed28ce650"), looks := true }, kinds := [], alts := [], laidByText := true, laidKinds := [.data, .pinned], laidTests := true, laidLooks := .later }
def PastFitsCardSaid : Prop := Claim7.holds Tryz.pinned (.plain (OpenSpec.ofChange pastFitsSpec)) pastFitsCard

/-- THE TIED CARD OF 'quiltworklaw03.PrimOwn'. -/
def primOwnCard : Claim7 := { stood := { row := primOwnRow, standIns := [], harness := (true, "a8ec782828be2c3d08348edbaa7f2760793478854d5f44021cce389ed28ce650"), looks := true }, kinds := [], alts := [], laidByText := true, laidKinds := [.data, .data, .data, .data, .pinned], laidTests := true, laidLooks := .later }
def PrimOwnCardSaid : Prop := Claim7.holds Tryz.pinned (.plain (OpenSpec.ofChange primOwnSpec)) primOwnCard

/-- THE TIED CARD OF 'quiltworklaw07.NamedFits'. -/
def namedFitsCard : Claim7 := { stood := { row := namedFitsRow, standIns := [], harness := (true, "a8ec782828be2c3d08348edbaa7f2760793478854d5f44021cce389ed28ce650"), looks := true }, kinds := [], alts := [], laidByText := true, laidKinds := [.data, .pinned], laidTests := true, laidLooks := .later }
def NamedFitsCardSaid : Prop := Claim7.holds Tryz.pinned (.plain (OpenSpec.ofChange namedFitsSpec)) namedFitsCard

/-- THE SECOND FORM's CARD OF 'quiltworklaw07.NamedOwn'. -/
def namedOwnUptoCard : Claim7 := { stood := { row := namedOwnUptoRow, standIns := [], harness := (true, "a8ec782828be2c3d08348edbaa7f2760793478854d5f44021cce389ed28ce650"), looks := true }, kinds := [], alts := [], laidByText := true, laidKinds := [.data, .pinned], laidTests := true, laidLooks := .later }
def NamedOwnUptoCardSaid : Prop := Claim7.holds Tryz.pinned (.plain (OpenSpec.upto namedOwnSpec)) namedOwnUptoCard

/-- THE SECOND FORM's CARD OF 'quiltworklaw06.DiffLines'. -/
def diffLinesUptoCard : Claim7 := { stood := { row := diffLinesUptoRow, standIns := [], harness := (true, "a8ec782828be2c3d08348edbaa7f2760793478854d5f44021cce389ed28ce650"), looks := true }, kinds := [], alts := [], laidByText := true, laidKinds := [.data, .pinned], laidTests := true, laidLooks := .later }
def DiffLinesUptoCardSaid : Prop := Claim7.holds Tryz.pinned (.plain (OpenSpec.upto diffLinesSpec)) diffLinesUptoCard

/-- THE SECOND FORM's CARD OF 'quiltworklaw06.DiffTrees'. -/
def diffTreesUptoCard : Claim7 := { stood := { row := diffTreesUptoRow, standIns := [], harness := (true, "a8ec782828be2c3d08348edbaa7f2760793478854d5f44021cce389ed28ce650"), looks := true }, kinds := [], alts := [], laidByText := true, laidKinds := [.data, .pinned], laidTests := true, laidLooks := .later }
def DiffTreesUptoCardSaid : Prop := Claim7.holds Tryz.pinned (.plain (OpenSpec.upto diffTreesSpec)) diffTreesUptoCard

/-- THE SECOND FORM's CARD OF 'quiltworklaw15.PastFits'. -/
def pastFitsUptoCard : Claim7 := { stood := { row := pastFitsUptoRow, standIns := [], harness := (true, "a8ec782828be2c3d08348edbaa7f2760793478854d5f44021cce389ed28ce650"), looks := true }, kinds := [], alts := [], laidByText := true, laidKinds := [.data, .pinned], laidTests := true, laidLooks := .later }
def PastFitsUptoCardSaid : Prop := Claim7.holds Tryz.pinned (.plain (OpenSpec.upto pastFitsSpec)) pastFitsUptoCard

/-- THE SECOND FORM's CARD OF 'quiltworklaw03.PrimOwn'. -/
def primOwnUptoCard : Claim7 := { stood := { row := primOwnUptoRow, standIns := [], harness := (true, "a8ec782828be2c3d08348edbaa7f2760793478854d5f44021cce389ed28ce650"), looks := true }, kinds := [], alts := [], laidByText := true, laidKinds := [.data, .data, .data, .data, .pinned], laidTests := true, laidLooks := .later }
def PrimOwnUptoCardSaid : Prop := Claim7.holds Tryz.pinned (.plain (OpenSpec.upto primOwnSpec)) primOwnUptoCard

/-- THE SECOND FORM's CARD OF 'quiltworklaw07.NamedFits'. -/
def namedFitsUptoCard : Claim7 := { stood := { row := namedFitsUptoRow, standIns := [], harness := (true, "a8ec782828be2c3d08348edbaa7f2760793478854d5f44021cce389ed28ce650"), looks := true }, kinds := [], alts := [], laidByText := true, laidKinds := [.data, .pinned], laidTests := true, laidLooks := .later }
def NamedFitsUptoCardSaid : Prop := Claim7.holds Tryz.pinned (.plain (OpenSpec.upto namedFitsSpec)) namedFitsUptoCard
end Rows
end Go.Proofs.YtdbiillompeclaaGreatDoor
