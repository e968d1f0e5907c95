/-
  DERIVED. GIVEN WITH THE SEED: THE CARDS: each row of YtbhnolfcdcpbkaaGreatDoorRows.lean that lists a variable, with what it lists TIED to the program's text (the seventh form; the later family's looks); each row that meets fmt, with fmt's text TOLD by the authors' own Lean function (tested against real Go, not proved from fmt's source: count such statements apart). THE CARD IS WHAT COUNTS. Prove the row's statement (the work); the ties are given (YtbhnolfcdcpbkaaGreatDoorTie.lean); close each card by the builder's one call (the guide's Derived/Test/ToyasCard.lean, 'card_holds'). Laid BY PROGRAM, IN A SANDBOX (cutbox-door.mjs). By AI agents, Wed Nov 11 2026. No macro, syntax, notation, axiom, sorry.
-/
import Derived.Test.YtbhnolfcdcpbkaaGreatDoorRows
import GoSem.ClaimSeven
namespace Go.Proofs.YtbhnolfcdcpbkaaGreatDoor
namespace Rows

/-- THE TIED CARD OF 'quiltworklaw14.RepoLoads'. -/
def repoLoadsCard : Claim7 := { stood := { row := repoLoadsRow, standIns := [], harness := (true, "4e52a3c5d33d589141bbef71958f66cd77157367eb3c9ff0a5827da30d5c3917"), looks := true }, kinds := [], alts := [], laidByText := true, laidKinds := [.data, .data, .data, .data, .pinned], laidTests := true, laidLooks := .later }
def RepoLoadsCardSaid : Prop := Claim7.holds Tryz.pinned (.plain (OpenSpec.ofChange repoLoadsSpec)) repoLoadsCard

/-- THE TIED CARD OF 'quiltworklaw14.RepoAmends'. -/
def repoAmendsCard : Claim7 := { stood := { row := repoAmendsRow, standIns := [], harness := (true, "4e52a3c5d33d589141bbef71958f66cd77157367eb3c9ff0a5827da30d5c3917"), looks := true }, kinds := [], alts := [], laidByText := true, laidKinds := [.data, .data, .data, .data, .pinned], laidTests := true, laidLooks := .later }
def RepoAmendsCardSaid : Prop := Claim7.holds Tryz.pinned (.plain (OpenSpec.ofChange repoAmendsSpec)) repoAmendsCard

/-- THE TIED CARD OF 'quiltworklaw14.RepoAll'. -/
def repoAllCard : Claim7 := { stood := { row := repoAllRow, standIns := [], harness := (true, "4e52a3c5d33d589141bbef71958f66cd77157367eb3c9ff0a5827da30d5c3917"), looks := true }, kinds := [], alts := [], laidByText := true, laidKinds := [.data, .data, .data, .data, .pinned], laidTests := true, laidLooks := .later }
def RepoAllCardSaid : Prop := Claim7.holds Tryz.pinned (.plain (OpenSpec.ofChange repoAllSpec)) repoAllCard

/-- THE TIED CARD OF 'quiltworklaw14.RepoFits'. -/
def repoFitsCard : Claim7 := { stood := { row := repoFitsRow, standIns := [], harness := (true, "4e52a3c5d33d589141bbef71958f66cd77157367eb3c9ff0a5827da30d5c3917"), looks := true }, kinds := [], alts := [], laidByText := true, laidKinds := [.data, .data, .data, .data, .pinned], laidTests := true, laidLooks := .later }
def RepoFitsCardSaid : Prop := Claim7.holds Tryz.pinned (.plain (OpenSpec.ofChange repoFitsSpec)) repoFitsCard

/-- THE TIED CARD OF 'quiltworklaw14.RepoKeeps'. -/
def repoKeepsCard : Claim7 := { stood := { row := repoKeepsRow, standIns := [], harness := (true, "4e52a3c5d33d589141bbef71958f66cd77157367eb3c9ff0a5827da30d5c3917"), looks := true }, kinds := [], alts := [], laidByText := true, laidKinds := [.data, .data, .data, .data, .pinned], laidTests := true, laidLooks := .later }
def RepoKeepsCardSaid : Prop := Claim7.holds Tryz.pinned (.plain (OpenSpec.ofChange repoKeepsSpec)) repoKeepsCard

/-- THE TIED CARD OF 'quiltworklaw14.RepoTells'. -/
def repoTellsCard : Claim7 := { stood := { row := repoTellsRow, standIns := [], harness := (true, "4e52a3c5d33d589141bbef71958f66cd77157367eb3c9ff0a5827da30d5c3917"), looks := true }, kinds := [], alts := [], laidByText := true, laidKinds := [.data, .data, .data, .data, .pinned], laidTests := true, laidLooks := .later }
def RepoTellsCardSaid : Prop := Claim7.holds Tryz.pinned (.plain (OpenSpec.ofChange repoTellsSpec)) repoTellsCard

/-- THE TIED CARD OF 'quiltworklaw14.RepoReverts'. -/
def repoRevertsCard : Claim7 := { stood := { row := repoRevertsRow, standIns := [], harness := (true, "4e52a3c5d33d589141bbef71958f66cd77157367eb3c9ff0a5827da30d5c3917"), looks := true }, kinds := [], alts := [], laidByText := true, laidKinds := [.data, .data, .data, .data, .pinned], laidTests := true, laidLooks := .later }
def RepoRevertsCardSaid : Prop := Claim7.holds Tryz.pinned (.plain (OpenSpec.ofChange repoRevertsSpec)) repoRevertsCard

/-- THE TIED CARD OF 'quiltworklaw14.RepoShelves'. -/
def repoShelvesCard : Claim7 := { stood := { row := repoShelvesRow, standIns := [], harness := (true, "4e52a3c5d33d589141bbef71958f66cd77157367eb3c9ff0a5827da30d5c3917"), looks := true }, kinds := [], alts := [], laidByText := true, laidKinds := [.data, .data, .data, .data, .pinned], laidTests := true, laidLooks := .later }
def RepoShelvesCardSaid : Prop := Claim7.holds Tryz.pinned (.plain (OpenSpec.ofChange repoShelvesSpec)) repoShelvesCard

/-- THE SECOND FORM's CARD OF 'quiltworklaw14.RepoLoads'. -/
def repoLoadsUptoCard : Claim7 := { stood := { row := repoLoadsUptoRow, standIns := [], harness := (true, "4e52a3c5d33d589141bbef71958f66cd77157367eb3c9ff0a5827da30d5c3917"), looks := true }, kinds := [], alts := [], laidByText := true, laidKinds := [.data, .data, .data, .data, .pinned], laidTests := true, laidLooks := .later }
def RepoLoadsUptoCardSaid : Prop := Claim7.holds Tryz.pinned (.plain (OpenSpec.upto repoLoadsSpec)) repoLoadsUptoCard

/-- THE SECOND FORM's CARD OF 'quiltworklaw14.RepoAmends'. -/
def repoAmendsUptoCard : Claim7 := { stood := { row := repoAmendsUptoRow, standIns := [], harness := (true, "4e52a3c5d33d589141bbef71958f66cd77157367eb3c9ff0a5827da30d5c3917"), looks := true }, kinds := [], alts := [], laidByText := true, laidKinds := [.data, .data, .data, .data, .pinned], laidTests := true, laidLooks := .later }
def RepoAmendsUptoCardSaid : Prop := Claim7.holds Tryz.pinned (.plain (OpenSpec.upto repoAmendsSpec)) repoAmendsUptoCard

/-- THE SECOND FORM's CARD OF 'quiltworklaw14.RepoAll'. -/
def repoAllUptoCard : Claim7 := { stood := { row := repoAllUptoRow, standIns := [], harness := (true, "4e52a3c5d33d589141bbef71958f66cd77157367eb3c9ff0a5827da30d5c3917"), looks := true }, kinds := [], alts := [], laidByText := true, laidKinds := [.data, .data, .data, .data, .pinned], laidTests := true, laidLooks := .later }
def RepoAllUptoCardSaid : Prop := Claim7.holds Tryz.pinned (.plain (OpenSpec.upto repoAllSpec)) repoAllUptoCard

/-- THE SECOND FORM's CARD OF 'quiltworklaw14.RepoFits'. -/
def repoFitsUptoCard : Claim7 := { stood := { row := repoFitsUptoRow, standIns := [], harness := (true, "4e52a3c5d33d589141bbef71958f66cd77157367eb3c9ff0a5827da30d5c3917"), looks := true }, kinds := [], alts := [], laidByText := true, laidKinds := [.data, .data, .data, .data, .pinned], laidTests := true, laidLooks := .later }
def RepoFitsUptoCardSaid : Prop := Claim7.holds Tryz.pinned (.plain (OpenSpec.upto repoFitsSpec)) repoFitsUptoCard

/-- THE SECOND FORM's CARD OF 'quiltworklaw14.RepoKeeps'. -/
def repoKeepsUptoCard : Claim7 := { stood := { row := repoKeepsUptoRow, standIns := [], harness := (true, "4e52a3c5d33d589141bbef71958f66cd77157367eb3c9ff0a5827da30d5c3917"), looks := true }, kinds := [], alts := [], laidByText := true, laidKinds := [.data, .data, .data, .data, .pinned], laidTests := true, laidLooks := .later }
def RepoKeepsUptoCardSaid : Prop := Claim7.holds Tryz.pinned (.plain (OpenSpec.upto repoKeepsSpec)) repoKeepsUptoCard

/-- THE SECOND FORM's CARD OF 'quiltworklaw14.RepoTells'. -/
def repoTellsUptoCard : Claim7 := { stood := { row := repoTellsUptoRow, standIns := [], harness := (true, "4e52a3c5d33d589141bbef71958f66cd77157367eb3c9ff0a5827da30d5c3917"), looks := true }, kinds := [], alts := [], laidByText := true, laidKinds := [.data, .data, .data, .data, .pinned], laidTests := true, laidLooks := .later }
def RepoTellsUptoCardSaid : Prop := Claim7.holds Tryz.pinned (.plain (OpenSpec.upto repoTellsSpec)) repoTellsUptoCard

/-- THE SECOND FORM's CARD OF 'quiltworklaw14.RepoReverts'. -/
def repoRevertsUptoCard : Claim7 := { stood := { row := repoRevertsUptoRow, standIns := [], harness := (true, "4e52a3c5d33d589141bbef71958f66cd77157367eb3c9ff0a5827da30d5c3917"), looks := true }, kinds := [], alts := [], laidByText := true, laidKinds := [.data, .data, .data, .data, .pinned], laidTests := true, laidLooks := .later }
def RepoRevertsUptoCardSaid : Prop := Claim7.holds Tryz.pinned (.plain (OpenSpec.upto repoRevertsSpec)) repoRevertsUptoCard

/-- THE SECOND FORM's CARD OF 'quiltworklaw14.RepoShelves'. -/
def repoShelvesUptoCard : Claim7 := { stood := { row := repoShelvesUptoRow, standIns := [], harness := (true, "4e52a3c5d33d589141bbef71958f66cd77157367eb3c9ff0a5827da30d5c3917"), looks := true }, kinds := [], alts := [], laidByText := true, laidKinds := [.data, .data, .data, .data, .pinned], laidTests := true, laidLooks := .later }
def RepoShelvesUptoCardSaid : Prop := Claim7.holds Tryz.pinned (.plain (OpenSpec.upto repoShelvesSpec)) repoShelvesUptoCard
end Rows
end Go.Proofs.YtbhnolfcdcpbkaaGreatDoor
