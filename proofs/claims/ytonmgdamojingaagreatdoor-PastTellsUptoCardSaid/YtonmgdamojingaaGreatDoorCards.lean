/-
  DERIVED. GIVEN WITH THE SEED: THE CARDS: each row of YtonmgdamojingaaGreatDoorRows.lean that lists a variable, with what it lists TIED to the program's text (the seventh form; the later family's looks); each row that meets fmt, with fmt's text TOLD by the authors' own Lean function (tested against real Go, not proved from fmt's source: count such statements apart). THE CARD IS WHAT COUNTS. Prove the row's statement (the work); the ties are given (YtonmgdamojingaaGreatDoorTie.lean); close each card by the builder's one call (the guide's Derived/Test/ToyasCard.lean, 'card_holds'). Laid BY PROGRAM, IN A SANDBOX (cutbox-door.mjs). By AI agents, Wed Nov 11 2026. No macro, syntax, notation, axiom, sorry.
-/
import Derived.Test.YtonmgdamojingaaGreatDoorRows
import GoSem.ClaimSeven
namespace Go.Proofs.YtonmgdamojingaaGreatDoor
namespace Rows

/-- THE TIED CARD OF 'quiltworklaw15.PastTells'. -/
def pastTellsCard : Claim7 := { stood := { row := pastTellsRow, standIns := [], harness := (true, "a5c644041f5007a692608df243dde5f81c1bb7a71dc98105b137466aaebf95b6"), looks := true }, kinds := [], alts := [], laidByText := true, laidKinds := [.data, .pinned], laidTests := true, laidLooks := .later }
def PastTellsCardSaid : Prop := Claim7.holds Tryz.pinned (.plain (OpenSpec.ofChange pastTellsSpec)) pastTellsCard

/-- THE TIED CARD OF 'quiltworklaw15.PastSince'. -/
def pastSinceCard : Claim7 := { stood := { row := pastSinceRow, standIns := [], harness := (true, "a5c644041f5007a692608df243dde5f81c1bb7a71dc98105b137466aaebf95b6"), looks := true }, kinds := [], alts := [], laidByText := true, laidKinds := [.data, .pinned], laidTests := true, laidLooks := .later }
def PastSinceCardSaid : Prop := Claim7.holds Tryz.pinned (.plain (OpenSpec.ofChange pastSinceSpec)) pastSinceCard

/-- THE TIED CARD OF 'quiltworklaw15.PastRebases'. -/
def pastRebasesCard : Claim7 := { stood := { row := pastRebasesRow, standIns := [], harness := (true, "a5c644041f5007a692608df243dde5f81c1bb7a71dc98105b137466aaebf95b6"), looks := true }, kinds := [], alts := [], laidByText := true, laidKinds := [.data, .pinned], laidTests := true, laidLooks := .later }
def PastRebasesCardSaid : Prop := Claim7.holds Tryz.pinned (.plain (OpenSpec.ofChange pastRebasesSpec)) pastRebasesCard

/-- THE TIED CARD OF 'quiltworklaw15.PastFits'. -/
def pastFitsCard : Claim7 := { stood := { row := pastFitsRow, standIns := [], harness := (true, "a5c644041f5007a692608df243dde5f81c1bb7a71dc98105b137466aaebf95b6"), looks := true }, kinds := [], alts := [], laidByText := true, laidKinds := [.data, .pinned], laidTests := true, laidLooks := .later }
def PastFitsCardSaid : Prop := Claim7.holds Tryz.pinned (.plain (OpenSpec.ofChange pastFitsSpec)) pastFitsCard

/-- THE SECOND FORM's CARD OF 'quiltworklaw15.PastTells'. -/
def pastTellsUptoCard : Claim7 := { stood := { row := pastTellsUptoRow, standIns := [], harness := (true, "a5c644041f5007a692608df243dde5f81c1bb7a71dc98105b137466aaebf95b6"), looks := true }, kinds := [], alts := [], laidByText := true, laidKinds := [.data, .pinned], laidTests := true, laidLooks := .later }
def PastTellsUptoCardSaid : Prop := Claim7.holds Tryz.pinned (.plain (OpenSpec.upto pastTellsSpec)) pastTellsUptoCard

/-- THE SECOND FORM's CARD OF 'quiltworklaw15.PastSince'. -/
def pastSinceUptoCard : Claim7 := { stood := { row := pastSinceUptoRow, standIns := [], harness := (true, "a5c644041f5007a692608df243dde5f81c1bb7a71dc98105b137466aaebf95b6"), looks := true }, kinds := [], alts := [], laidByText := true, laidKinds := [.data, .pinned], laidTests := true, laidLooks := .later }
def PastSinceUptoCardSaid : Prop := Claim7.holds Tryz.pinned (.plain (OpenSpec.upto pastSinceSpec)) pastSinceUptoCard

/-- THE SECOND FORM's CARD OF 'quiltworklaw15.PastRebases'. -/
def pastRebasesUptoCard : Claim7 := { stood := { row := pastRebasesUptoRow, standIns := [], harness := (true, "a5c644041f5007a692608df243dde5f81c1bb7a71dc98105b137466aaebf95b6"), looks := true }, kinds := [], alts := [], laidByText := true, laidKinds := [.data, .pinned], laidTests := true, laidLooks := .later }
def PastRebasesUptoCardSaid : Prop := Claim7.holds Tryz.pinned (.plain (OpenSpec.upto pastRebasesSpec)) pastRebasesUptoCard

/-- THE SECOND FORM's CARD OF 'quiltworklaw15.PastFits'. -/
def pastFitsUptoCard : Claim7 := { stood := { row := pastFitsUptoRow, standIns := [], harness := (true, "a5c644041f5007a692608df243dde5f81c1bb7a71dc98105b137466aaebf95b6"), looks := true }, kinds := [], alts := [], laidByText := true, laidKinds := [.data, .pinned], laidTests := true, laidLooks := .later }
def PastFitsUptoCardSaid : Prop := Claim7.holds Tryz.pinned (.plain (OpenSpec.upto pastFitsSpec)) pastFitsUptoCard
end Rows
end Go.Proofs.YtonmgdamojingaaGreatDoor
