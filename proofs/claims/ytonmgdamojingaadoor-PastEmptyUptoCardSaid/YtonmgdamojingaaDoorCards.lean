/-
  DERIVED. GIVEN WITH THE SEED: THE CARDS: each row of YtonmgdamojingaaDoorRows.lean that lists a variable, with what it lists TIED to the program's text (the seventh form; the later family's looks); each row that meets fmt, with fmt's text TOLD by the authors' own Lean function (tested against real Go, not proved from fmt's source: count such statements apart). THE CARD IS WHAT COUNTS. Prove the row's statement (the work); the ties are given (YtonmgdamojingaaDoorTie.lean); close each card by the builder's one call (the guide's Derived/Test/ToyasCard.lean, 'card_holds'). Laid BY PROGRAM, IN A SANDBOX (cutbox-door.mjs). By AI agents, Wed Nov 11 2026. No macro, syntax, notation, axiom, sorry.
-/
import Derived.Test.YtonmgdamojingaaDoorRows
import GoSem.ClaimSeven
namespace Go.Proofs.YtonmgdamojingaaDoor
namespace Rows

/-- THE TIED CARD OF 'quiltworklaw15.PastSteps'. -/
def pastStepsCard : Claim7 := { stood := { row := pastStepsRow, standIns := [], harness := (true, "be1e733580dfce8b1ca180abbb5c2e557b2153ff79a0362b7fef01545ed9d35c"), looks := false }, kinds := [], alts := [], laidByText := true, laidKinds := [.data, .pinned], laidTests := true, laidLooks := .later }
def PastStepsCardSaid : Prop := Claim7.holds Tryd.pinned (.plain (OpenSpec.ofChange pastStepsSpec)) pastStepsCard

/-- THE TIED CARD OF 'quiltworklaw15.PastEmpty'. -/
def pastEmptyCard : Claim7 := { stood := { row := pastEmptyRow, standIns := [], harness := (true, "be1e733580dfce8b1ca180abbb5c2e557b2153ff79a0362b7fef01545ed9d35c"), looks := false }, kinds := [], alts := [], laidByText := true, laidKinds := [.data, .pinned], laidTests := true, laidLooks := .later }
def PastEmptyCardSaid : Prop := Claim7.holds Tryd.pinned (.plain (OpenSpec.ofChange pastEmptySpec)) pastEmptyCard

/-- THE SECOND FORM's CARD OF 'quiltworklaw15.PastSteps'. -/
def pastStepsUptoCard : Claim7 := { stood := { row := pastStepsUptoRow, standIns := [], harness := (true, "be1e733580dfce8b1ca180abbb5c2e557b2153ff79a0362b7fef01545ed9d35c"), looks := false }, kinds := [], alts := [], laidByText := true, laidKinds := [.data, .pinned], laidTests := true, laidLooks := .later }
def PastStepsUptoCardSaid : Prop := Claim7.holds Tryd.pinned (.plain (OpenSpec.upto pastStepsSpec)) pastStepsUptoCard

/-- THE SECOND FORM's CARD OF 'quiltworklaw15.PastEmpty'. -/
def pastEmptyUptoCard : Claim7 := { stood := { row := pastEmptyUptoRow, standIns := [], harness := (true, "be1e733580dfce8b1ca180abbb5c2e557b2153ff79a0362b7fef01545ed9d35c"), looks := false }, kinds := [], alts := [], laidByText := true, laidKinds := [.data, .pinned], laidTests := true, laidLooks := .later }
def PastEmptyUptoCardSaid : Prop := Claim7.holds Tryd.pinned (.plain (OpenSpec.upto pastEmptySpec)) pastEmptyUptoCard
end Rows
end Go.Proofs.YtonmgdamojingaaDoor
