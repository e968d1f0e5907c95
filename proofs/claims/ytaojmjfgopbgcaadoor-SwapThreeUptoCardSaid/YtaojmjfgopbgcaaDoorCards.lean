/-
  DERIVED. GIVEN WITH THE SEED: THE CARDS: each row of YtaojmjfgopbgcaaDoorRows.lean that lists a variable, with what it lists TIED to the program's text (the seventh form; the later family's looks); each row that meets fmt, with fmt's text TOLD by the authors' own Lean function (tested against real Go, not proved from fmt's source: count such statements apart). THE CARD IS WHAT COUNTS. Prove the row's statement (the work); the ties are given (YtaojmjfgopbgcaaDoorTie.lean); close each card by the builder's one call (the guide's Derived/Test/ToyasCard.lean, 'card_holds'). Laid BY PROGRAM, IN A SANDBOX (cutbox-door.mjs). By AI agents, Wed Nov 11 2026. No macro, syntax, notation, axiom, sorry.
-/
import Derived.Test.YtaojmjfgopbgcaaDoorRows
import GoSem.ClaimSeven
namespace Go.Proofs.YtaojmjfgopbgcaaDoor
namespace Rows

/-- THE TIED CARD OF 'quiltworklaw04.SwapTells'. -/
def swapTellsCard : Claim7 := { stood := { row := swapTellsRow, standIns := [], harness := (true, "25e819635a7896a2b0a9591d0232bf6ea5ca54182d8394028a9b07f317ca3f7b"), looks := false }, kinds := [], alts := [], laidByText := true, laidKinds := [.data, .pinned], laidTests := true, laidLooks := .later }
def SwapTellsCardSaid : Prop := Claim7.holds Tryd.pinned (.plain (OpenSpec.ofChange swapTellsSpec)) swapTellsCard

/-- THE TIED CARD OF 'quiltworklaw04.SwapBack'. -/
def swapBackCard : Claim7 := { stood := { row := swapBackRow, standIns := [], harness := (true, "25e819635a7896a2b0a9591d0232bf6ea5ca54182d8394028a9b07f317ca3f7b"), looks := false }, kinds := [], alts := [], laidByText := true, laidKinds := [.data, .pinned], laidTests := true, laidLooks := .later }
def SwapBackCardSaid : Prop := Claim7.holds Tryd.pinned (.plain (OpenSpec.ofChange swapBackSpec)) swapBackCard

/-- THE TIED CARD OF 'quiltworklaw04.SwapThree'. -/
def swapThreeCard : Claim7 := { stood := { row := swapThreeRow, standIns := [], harness := (true, "25e819635a7896a2b0a9591d0232bf6ea5ca54182d8394028a9b07f317ca3f7b"), looks := false }, kinds := [], alts := [], laidByText := true, laidKinds := [.data, .pinned], laidTests := true, laidLooks := .later }
def SwapThreeCardSaid : Prop := Claim7.holds Tryd.pinned (.plain (OpenSpec.ofChange swapThreeSpec)) swapThreeCard

/-- THE TIED CARD OF 'quiltworklaw04.SwapKeeps'. -/
def swapKeepsCard : Claim7 := { stood := { row := swapKeepsRow, standIns := [], harness := (true, "25e819635a7896a2b0a9591d0232bf6ea5ca54182d8394028a9b07f317ca3f7b"), looks := false }, kinds := [], alts := [], laidByText := true, laidKinds := [.data, .pinned], laidTests := true, laidLooks := .later }
def SwapKeepsCardSaid : Prop := Claim7.holds Tryd.pinned (.plain (OpenSpec.ofChange swapKeepsSpec)) swapKeepsCard

/-- THE TIED CARD OF 'quiltworklaw04.SwapSquare'. -/
def swapSquareCard : Claim7 := { stood := { row := swapSquareRow, standIns := [], harness := (true, "25e819635a7896a2b0a9591d0232bf6ea5ca54182d8394028a9b07f317ca3f7b"), looks := false }, kinds := [], alts := [], laidByText := true, laidKinds := [.data, .pinned], laidTests := true, laidLooks := .later }
def SwapSquareCardSaid : Prop := Claim7.holds Tryd.pinned (.plain (OpenSpec.ofChange swapSquareSpec)) swapSquareCard

/-- THE TIED CARD OF 'quiltworklaw04.SwapInverts'. -/
def swapInvertsCard : Claim7 := { stood := { row := swapInvertsRow, standIns := [], harness := (true, "25e819635a7896a2b0a9591d0232bf6ea5ca54182d8394028a9b07f317ca3f7b"), looks := false }, kinds := [], alts := [], laidByText := true, laidKinds := [.data, .pinned], laidTests := true, laidLooks := .later }
def SwapInvertsCardSaid : Prop := Claim7.holds Tryd.pinned (.plain (OpenSpec.ofChange swapInvertsSpec)) swapInvertsCard

/-- THE SECOND FORM's CARD OF 'quiltworklaw04.SwapTells'. -/
def swapTellsUptoCard : Claim7 := { stood := { row := swapTellsUptoRow, standIns := [], harness := (true, "25e819635a7896a2b0a9591d0232bf6ea5ca54182d8394028a9b07f317ca3f7b"), looks := false }, kinds := [], alts := [], laidByText := true, laidKinds := [.data, .pinned], laidTests := true, laidLooks := .later }
def SwapTellsUptoCardSaid : Prop := Claim7.holds Tryd.pinned (.plain (OpenSpec.upto swapTellsSpec)) swapTellsUptoCard

/-- THE SECOND FORM's CARD OF 'quiltworklaw04.SwapBack'. -/
def swapBackUptoCard : Claim7 := { stood := { row := swapBackUptoRow, standIns := [], harness := (true, "25e819635a7896a2b0a9591d0232bf6ea5ca54182d8394028a9b07f317ca3f7b"), looks := false }, kinds := [], alts := [], laidByText := true, laidKinds := [.data, .pinned], laidTests := true, laidLooks := .later }
def SwapBackUptoCardSaid : Prop := Claim7.holds Tryd.pinned (.plain (OpenSpec.upto swapBackSpec)) swapBackUptoCard

/-- THE SECOND FORM's CARD OF 'quiltworklaw04.SwapThree'. -/
def swapThreeUptoCard : Claim7 := { stood := { row := swapThreeUptoRow, standIns := [], harness := (true, "25e819635a7896a2b0a9591d0232bf6ea5ca54182d8394028a9b07f317ca3f7b"), looks := false }, kinds := [], alts := [], laidByText := true, laidKinds := [.data, .pinned], laidTests := true, laidLooks := .later }
def SwapThreeUptoCardSaid : Prop := Claim7.holds Tryd.pinned (.plain (OpenSpec.upto swapThreeSpec)) swapThreeUptoCard

/-- THE SECOND FORM's CARD OF 'quiltworklaw04.SwapKeeps'. -/
def swapKeepsUptoCard : Claim7 := { stood := { row := swapKeepsUptoRow, standIns := [], harness := (true, "25e819635a7896a2b0a9591d0232bf6ea5ca54182d8394028a9b07f317ca3f7b"), looks := false }, kinds := [], alts := [], laidByText := true, laidKinds := [.data, .pinned], laidTests := true, laidLooks := .later }
def SwapKeepsUptoCardSaid : Prop := Claim7.holds Tryd.pinned (.plain (OpenSpec.upto swapKeepsSpec)) swapKeepsUptoCard

/-- THE SECOND FORM's CARD OF 'quiltworklaw04.SwapSquare'. -/
def swapSquareUptoCard : Claim7 := { stood := { row := swapSquareUptoRow, standIns := [], harness := (true, "25e819635a7896a2b0a9591d0232bf6ea5ca54182d8394028a9b07f317ca3f7b"), looks := false }, kinds := [], alts := [], laidByText := true, laidKinds := [.data, .pinned], laidTests := true, laidLooks := .later }
def SwapSquareUptoCardSaid : Prop := Claim7.holds Tryd.pinned (.plain (OpenSpec.upto swapSquareSpec)) swapSquareUptoCard

/-- THE SECOND FORM's CARD OF 'quiltworklaw04.SwapInverts'. -/
def swapInvertsUptoCard : Claim7 := { stood := { row := swapInvertsUptoRow, standIns := [], harness := (true, "25e819635a7896a2b0a9591d0232bf6ea5ca54182d8394028a9b07f317ca3f7b"), looks := false }, kinds := [], alts := [], laidByText := true, laidKinds := [.data, .pinned], laidTests := true, laidLooks := .later }
def SwapInvertsUptoCardSaid : Prop := Claim7.holds Tryd.pinned (.plain (OpenSpec.upto swapInvertsSpec)) swapInvertsUptoCard
end Rows
end Go.Proofs.YtaojmjfgopbgcaaDoor
