/-
  DERIVED. GIVEN WITH THE SEED: THE CARDS: each row of YtheamdahngfpdaaGreatDoorRows.lean that lists a variable, with what it lists TIED to the program's text (the seventh form; the later family's looks); each row that meets fmt, with fmt's text TOLD by the authors' own Lean function (tested against real Go, not proved from fmt's source: count such statements apart). THE CARD IS WHAT COUNTS. Prove the row's statement (the work); the ties are given (YtheamdahngfpdaaGreatDoorTie.lean); close each card by the builder's one call (the guide's Derived/Test/ToyasCard.lean, 'card_holds'). Laid BY PROGRAM, IN A SANDBOX (cutbox-door.mjs). By AI agents, Wed Nov 11 2026. No macro, syntax, notation, axiom, sorry.
-/
import Derived.Test.YtheamdahngfpdaaGreatDoorRows
import GoSem.ClaimSeven
namespace Go.Proofs.YtheamdahngfpdaaGreatDoor
namespace Rows

/-- THE TIED CARD OF 'quiltworklaw05.SeqTells'. -/
def seqTellsCard : Claim7 := { stood := { row := seqTellsRow, standIns := [], harness := (true, "1ccb9da463e2f1831e80148341b47fb3509ce4772f461ceb1d01849de958534f"), looks := true }, kinds := [], alts := [], laidByText := true, laidKinds := [.data, .data, .data, .data, .pinned], laidTests := true, laidLooks := .later }
def SeqTellsCardSaid : Prop := Claim7.holds Tryz.pinned (.plain (OpenSpec.ofChange seqTellsSpec)) seqTellsCard

/-- THE TIED CARD OF 'quiltworklaw05.SeqSwaps'. -/
def seqSwapsCard : Claim7 := { stood := { row := seqSwapsRow, standIns := [], harness := (true, "1ccb9da463e2f1831e80148341b47fb3509ce4772f461ceb1d01849de958534f"), looks := true }, kinds := [], alts := [], laidByText := true, laidKinds := [.data, .data, .data, .data, .pinned], laidTests := true, laidLooks := .later }
def SeqSwapsCardSaid : Prop := Claim7.holds Tryz.pinned (.plain (OpenSpec.ofChange seqSwapsSpec)) seqSwapsCard

/-- THE TIED CARD OF 'quiltworklaw05.SeqRebases'. -/
def seqRebasesCard : Claim7 := { stood := { row := seqRebasesRow, standIns := [], harness := (true, "1ccb9da463e2f1831e80148341b47fb3509ce4772f461ceb1d01849de958534f"), looks := true }, kinds := [], alts := [], laidByText := true, laidKinds := [.data, .data, .data, .data, .pinned], laidTests := true, laidLooks := .later }
def SeqRebasesCardSaid : Prop := Claim7.holds Tryz.pinned (.plain (OpenSpec.ofChange seqRebasesSpec)) seqRebasesCard

/-- THE TIED CARD OF 'quiltworklaw05.SeqApplies'. -/
def seqAppliesCard : Claim7 := { stood := { row := seqAppliesRow, standIns := [], harness := (true, "1ccb9da463e2f1831e80148341b47fb3509ce4772f461ceb1d01849de958534f"), looks := true }, kinds := [], alts := [], laidByText := true, laidKinds := [.data, .data, .data, .data, .pinned], laidTests := true, laidLooks := .later }
def SeqAppliesCardSaid : Prop := Claim7.holds Tryz.pinned (.plain (OpenSpec.ofChange seqAppliesSpec)) seqAppliesCard

/-- THE TIED CARD OF 'quiltworklaw05.SeqFits'. -/
def seqFitsCard : Claim7 := { stood := { row := seqFitsRow, standIns := [], harness := (true, "1ccb9da463e2f1831e80148341b47fb3509ce4772f461ceb1d01849de958534f"), looks := true }, kinds := [], alts := [], laidByText := true, laidKinds := [.data, .data, .data, .data, .pinned], laidTests := true, laidLooks := .later }
def SeqFitsCardSaid : Prop := Claim7.holds Tryz.pinned (.plain (OpenSpec.ofChange seqFitsSpec)) seqFitsCard

/-- THE TIED CARD OF 'quiltworklaw05.SeqMerges'. -/
def seqMergesCard : Claim7 := { stood := { row := seqMergesRow, standIns := [], harness := (true, "1ccb9da463e2f1831e80148341b47fb3509ce4772f461ceb1d01849de958534f"), looks := true }, kinds := [], alts := [], laidByText := true, laidKinds := [.data, .data, .data, .data, .pinned], laidTests := true, laidLooks := .later }
def SeqMergesCardSaid : Prop := Claim7.holds Tryz.pinned (.plain (OpenSpec.ofChange seqMergesSpec)) seqMergesCard

/-- THE TIED CARD OF 'quiltworklaw05.SeqSplits'. -/
def seqSplitsCard : Claim7 := { stood := { row := seqSplitsRow, standIns := [], harness := (true, "1ccb9da463e2f1831e80148341b47fb3509ce4772f461ceb1d01849de958534f"), looks := true }, kinds := [], alts := [], laidByText := true, laidKinds := [.data, .data, .data, .data, .pinned], laidTests := true, laidLooks := .later }
def SeqSplitsCardSaid : Prop := Claim7.holds Tryz.pinned (.plain (OpenSpec.ofChange seqSplitsSpec)) seqSplitsCard

/-- THE TIED CARD OF 'quiltworklaw05.SeqOnes'. -/
def seqOnesCard : Claim7 := { stood := { row := seqOnesRow, standIns := [], harness := (true, "1ccb9da463e2f1831e80148341b47fb3509ce4772f461ceb1d01849de958534f"), looks := true }, kinds := [], alts := [], laidByText := true, laidKinds := [.data, .data, .data, .data, .pinned], laidTests := true, laidLooks := .later }
def SeqOnesCardSaid : Prop := Claim7.holds Tryz.pinned (.plain (OpenSpec.ofChange seqOnesSpec)) seqOnesCard

/-- THE SECOND FORM's CARD OF 'quiltworklaw05.SeqTells'. -/
def seqTellsUptoCard : Claim7 := { stood := { row := seqTellsUptoRow, standIns := [], harness := (true, "1ccb9da463e2f1831e80148341b47fb3509ce4772f461ceb1d01849de958534f"), looks := true }, kinds := [], alts := [], laidByText := true, laidKinds := [.data, .data, .data, .data, .pinned], laidTests := true, laidLooks := .later }
def SeqTellsUptoCardSaid : Prop := Claim7.holds Tryz.pinned (.plain (OpenSpec.upto seqTellsSpec)) seqTellsUptoCard

/-- THE SECOND FORM's CARD OF 'quiltworklaw05.SeqSwaps'. -/
def seqSwapsUptoCard : Claim7 := { stood := { row := seqSwapsUptoRow, standIns := [], harness := (true, "1ccb9da463e2f1831e80148341b47fb3509ce4772f461ceb1d01849de958534f"), looks := true }, kinds := [], alts := [], laidByText := true, laidKinds := [.data, .data, .data, .data, .pinned], laidTests := true, laidLooks := .later }
def SeqSwapsUptoCardSaid : Prop := Claim7.holds Tryz.pinned (.plain (OpenSpec.upto seqSwapsSpec)) seqSwapsUptoCard

/-- THE SECOND FORM's CARD OF 'quiltworklaw05.SeqRebases'. -/
def seqRebasesUptoCard : Claim7 := { stood := { row := seqRebasesUptoRow, standIns := [], harness := (true, "1ccb9da463e2f1831e80148341b47fb3509ce4772f461ceb1d01849de958534f"), looks := true }, kinds := [], alts := [], laidByText := true, laidKinds := [.data, .data, .data, .data, .pinned], laidTests := true, laidLooks := .later }
def SeqRebasesUptoCardSaid : Prop := Claim7.holds Tryz.pinned (.plain (OpenSpec.upto seqRebasesSpec)) seqRebasesUptoCard

/-- THE SECOND FORM's CARD OF 'quiltworklaw05.SeqApplies'. -/
def seqAppliesUptoCard : Claim7 := { stood := { row := seqAppliesUptoRow, standIns := [], harness := (true, "1ccb9da463e2f1831e80148341b47fb3509ce4772f461ceb1d01849de958534f"), looks := true }, kinds := [], alts := [], laidByText := true, laidKinds := [.data, .data, .data, .data, .pinned], laidTests := true, laidLooks := .later }
def SeqAppliesUptoCardSaid : Prop := Claim7.holds Tryz.pinned (.plain (OpenSpec.upto seqAppliesSpec)) seqAppliesUptoCard

/-- THE SECOND FORM's CARD OF 'quiltworklaw05.SeqFits'. -/
def seqFitsUptoCard : Claim7 := { stood := { row := seqFitsUptoRow, standIns := [], harness := (true, "1ccb9da463e2f1831e80148341b47fb3509ce4772f461ceb1d01849de958534f"), looks := true }, kinds := [], alts := [], laidByText := true, laidKinds := [.data, .data, .data, .data, .pinned], laidTests := true, laidLooks := .later }
def SeqFitsUptoCardSaid : Prop := Claim7.holds Tryz.pinned (.plain (OpenSpec.upto seqFitsSpec)) seqFitsUptoCard

/-- THE SECOND FORM's CARD OF 'quiltworklaw05.SeqMerges'. -/
def seqMergesUptoCard : Claim7 := { stood := { row := seqMergesUptoRow, standIns := [], harness := (true, "1ccb9da463e2f1831e80148341b47fb3509ce4772f461ceb1d01849de958534f"), looks := true }, kinds := [], alts := [], laidByText := true, laidKinds := [.data, .data, .data, .data, .pinned], laidTests := true, laidLooks := .later }
def SeqMergesUptoCardSaid : Prop := Claim7.holds Tryz.pinned (.plain (OpenSpec.upto seqMergesSpec)) seqMergesUptoCard

/-- THE SECOND FORM's CARD OF 'quiltworklaw05.SeqSplits'. -/
def seqSplitsUptoCard : Claim7 := { stood := { row := seqSplitsUptoRow, standIns := [], harness := (true, "1ccb9da463e2f1831e80148341b47fb3509ce4772f461ceb1d01849de958534f"), looks := true }, kinds := [], alts := [], laidByText := true, laidKinds := [.data, .data, .data, .data, .pinned], laidTests := true, laidLooks := .later }
def SeqSplitsUptoCardSaid : Prop := Claim7.holds Tryz.pinned (.plain (OpenSpec.upto seqSplitsSpec)) seqSplitsUptoCard

/-- THE SECOND FORM's CARD OF 'quiltworklaw05.SeqOnes'. -/
def seqOnesUptoCard : Claim7 := { stood := { row := seqOnesUptoRow, standIns := [], harness := (true, "1ccb9da463e2f1831e80148341b47fb3509ce4772f461ceb1d01849de958534f"), looks := true }, kinds := [], alts := [], laidByText := true, laidKinds := [.data, .data, .data, .data, .pinned], laidTests := true, laidLooks := .later }
def SeqOnesUptoCardSaid : Prop := Claim7.holds Tryz.pinned (.plain (OpenSpec.upto seqOnesSpec)) seqOnesUptoCard
end Rows
end Go.Proofs.YtheamdahngfpdaaGreatDoor
