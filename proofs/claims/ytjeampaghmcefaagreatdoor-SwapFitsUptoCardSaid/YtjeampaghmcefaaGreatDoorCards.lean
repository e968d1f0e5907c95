/-
  DERIVED. GIVEN WITH THE SEED: THE CARDS: each row of YtjeampaghmcefaaGreatDoorRows.lean that lists a variable, with what it lists TIED to the program's text (the seventh form; the later family's looks); each row that meets fmt, with fmt's text TOLD by the authors' own Lean function (tested against real Go, not proved from fmt's source: count such statements apart). THE CARD IS WHAT COUNTS. Prove the row's statement (the work); the ties are given (YtjeampaghmcefaaGreatDoorTie.lean); close each card by the builder's one call (the guide's Derived/Test/ToyasCard.lean, 'card_holds'). Laid BY PROGRAM, IN A SANDBOX (cutbox-door.mjs). By AI agents, Wed Nov 11 2026. No macro, syntax, notation, axiom, sorry.
-/
import Derived.Test.YtjeampaghmcefaaGreatDoorRows
import GoSem.ClaimSeven
namespace Go.Proofs.YtjeampaghmcefaaGreatDoor
namespace Rows

/-- THE TIED CARD OF 'quiltworklaw04.SwapFits'. -/
def swapFitsCard : Claim7 := { stood := { row := swapFitsRow, standIns := [], harness := (true, "60be7aa5de47e0158412aa0754f633b765887ffda39442cd85252b5a89355e26"), looks := true }, kinds := [], alts := [], laidByText := true, laidKinds := [.data, .pinned], laidTests := true, laidLooks := .later }
def SwapFitsCardSaid : Prop := Claim7.holds Tryz.pinned (.plain (OpenSpec.ofChange swapFitsSpec)) swapFitsCard

/-- THE TIED CARD OF 'quiltworklaw15.PastFits'. -/
def pastFitsCard : Claim7 := { stood := { row := pastFitsRow, standIns := [], harness := (true, "60be7aa5de47e0158412aa0754f633b765887ffda39442cd85252b5a89355e26"), looks := true }, kinds := [], alts := [], laidByText := true, laidKinds := [.data, .pinned], laidTests := true, laidLooks := .later }
def PastFitsCardSaid : Prop := Claim7.holds Tryz.pinned (.plain (OpenSpec.ofChange pastFitsSpec)) pastFitsCard

/-- THE TIED CARD OF 'quiltworklaw07.NamedFits'. -/
def namedFitsCard : Claim7 := { stood := { row := namedFitsRow, standIns := [], harness := (true, "60be7aa5de47e0158412aa0754f633b765887ffda39442cd85252b5a89355e26"), looks := true }, kinds := [], alts := [], laidByText := true, laidKinds := [.data, .pinned], laidTests := true, laidLooks := .later }
def NamedFitsCardSaid : Prop := Claim7.holds Tryz.pinned (.plain (OpenSpec.ofChange namedFitsSpec)) namedFitsCard

/-- THE SECOND FORM's CARD OF 'quiltworklaw04.SwapFits'. -/
def swapFitsUptoCard : Claim7 := { stood := { row := swapFitsUptoRow, standIns := [], harness := (true, "60be7aa5de47e0158412aa0754f633b765887ffda39442cd85252b5a89355e26"), looks := true }, kinds := [], alts := [], laidByText := true, laidKinds := [.data, .pinned], laidTests := true, laidLooks := .later }
def SwapFitsUptoCardSaid : Prop := Claim7.holds Tryz.pinned (.plain (OpenSpec.upto swapFitsSpec)) swapFitsUptoCard

/-- THE SECOND FORM's CARD OF 'quiltworklaw15.PastFits'. -/
def pastFitsUptoCard : Claim7 := { stood := { row := pastFitsUptoRow, standIns := [], harness := (true, "60be7aa5de47e0158412aa0754f633b765887ffda39442cd85252b5a89355e26"), looks := true }, kinds := [], alts := [], laidByText := true, laidKinds := [.data, .pinned], laidTests := true, laidLooks := .later }
def PastFitsUptoCardSaid : Prop := Claim7.holds Tryz.pinned (.plain (OpenSpec.upto pastFitsSpec)) pastFitsUptoCard

/-- THE SECOND FORM's CARD OF 'quiltworklaw07.NamedFits'. -/
def namedFitsUptoCard : Claim7 := { stood := { row := namedFitsUptoRow, standIns := [], harness := (true, "60be7aa5de47e0158412aa0754f633b765887ffda39442cd85252b5a89355e26"), looks := true }, kinds := [], alts := [], laidByText := true, laidKinds := [.data, .pinned], laidTests := true, laidLooks := .later }
def NamedFitsUptoCardSaid : Prop := Claim7.holds Tryz.pinned (.plain (OpenSpec.upto namedFitsSpec)) namedFitsUptoCard
end Rows
end Go.Proofs.YtjeampaghmcefaaGreatDoor
