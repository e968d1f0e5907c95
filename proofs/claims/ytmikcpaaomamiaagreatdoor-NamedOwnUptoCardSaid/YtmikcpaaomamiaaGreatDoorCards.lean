/-
  DERIVED. GIVEN WITH THE SEED: THE CARDS: each row of YtmikcpaaomamiaaGreatDoorRows.lean that lists a variable, with what it lists TIED to the program's text (the seventh form; the later family's looks); each row that meets fmt, with fmt's text TOLD by the authors' own Lean function (tested against real Go, not proved from fmt's source: count such statements apart). THE CARD IS WHAT COUNTS. Prove the row's statement (the work); the ties are given (YtmikcpaaomamiaaGreatDoorTie.lean); close each card by the builder's one call (the guide's Derived/Test/ToyasCard.lean, 'card_holds'). Laid BY PROGRAM, IN A SANDBOX (cutbox-door.mjs). By AI agents, Wed Nov 11 2026. No macro, syntax, notation, axiom, sorry.
-/
import Derived.Test.YtmikcpaaomamiaaGreatDoorRows
import GoSem.ClaimSeven
namespace Go.Proofs.YtmikcpaaomamiaaGreatDoor
namespace Rows

/-- THE TIED CARD OF 'quiltworklaw07.NamedOwn'. -/
def namedOwnCard : Claim7 := { stood := { row := namedOwnRow, standIns := [], harness := (true, "5964face2cca67df7543a0c265684cd0925119280b396bb6898fa1e39b172cb3"), looks := false }, kinds := [], alts := [], laidByText := true, laidKinds := [.data, .pinned], laidTests := true, laidLooks := .later }
def NamedOwnCardSaid : Prop := Claim7.holds Tryz.pinned (.plain (OpenSpec.ofChange namedOwnSpec)) namedOwnCard

/-- THE SECOND FORM's CARD OF 'quiltworklaw07.NamedOwn'. -/
def namedOwnUptoCard : Claim7 := { stood := { row := namedOwnUptoRow, standIns := [], harness := (true, "5964face2cca67df7543a0c265684cd0925119280b396bb6898fa1e39b172cb3"), looks := false }, kinds := [], alts := [], laidByText := true, laidKinds := [.data, .pinned], laidTests := true, laidLooks := .later }
def NamedOwnUptoCardSaid : Prop := Claim7.holds Tryz.pinned (.plain (OpenSpec.upto namedOwnSpec)) namedOwnUptoCard
end Rows
end Go.Proofs.YtmikcpaaomamiaaGreatDoor
