/-
  DERIVED. GIVEN WITH THE SEED: THE CARDS: each row of YtogcgfdfabnjhaaGreatDoorRows.lean that lists a variable, with what it lists TIED to the program's text (the seventh form; the later family's looks); each row that meets fmt, with fmt's text TOLD by the authors' own Lean function (tested against real Go, not proved from fmt's source: count such statements apart). THE CARD IS WHAT COUNTS. Prove the row's statement (the work); the ties are given (YtogcgfdfabnjhaaGreatDoorTie.lean); close each card by the builder's one call (the guide's Derived/Test/ToyasCard.lean, 'card_holds'). Laid BY PROGRAM, IN A SANDBOX (cutbox-door.mjs). By AI agents, Wed Nov 11 2026. No macro, syntax, notation, axiom, sorry.
-/
import Derived.Test.YtogcgfdfabnjhaaGreatDoorRows
import GoSem.ClaimSeven
namespace Go.Proofs.YtogcgfdfabnjhaaGreatDoor
namespace Rows

/-- THE TIED CARD OF 'quiltworklaw07.NamedRight'. -/
def namedRightCard : Claim7 := { stood := { row := namedRightRow, standIns := [], harness := (true, "b335e2562950467c89b5fb6f91d5e773ab12e05ac455a243c514264c59c76deb"), looks := true }, kinds := [], alts := [], laidByText := true, laidKinds := [.data, .pinned], laidTests := true, laidLooks := .later }
def NamedRightCardSaid : Prop := Claim7.holds Tryz.pinned (.plain (OpenSpec.ofChange namedRightSpec)) namedRightCard

/-- THE TIED CARD OF 'quiltworklaw07.NamedSwaps'. -/
def namedSwapsCard : Claim7 := { stood := { row := namedSwapsRow, standIns := [], harness := (true, "b335e2562950467c89b5fb6f91d5e773ab12e05ac455a243c514264c59c76deb"), looks := true }, kinds := [], alts := [], laidByText := true, laidKinds := [.data, .pinned], laidTests := true, laidLooks := .later }
def NamedSwapsCardSaid : Prop := Claim7.holds Tryz.pinned (.plain (OpenSpec.ofChange namedSwapsSpec)) namedSwapsCard

/-- THE TIED CARD OF 'quiltworklaw07.NamedPast'. -/
def namedPastCard : Claim7 := { stood := { row := namedPastRow, standIns := [], harness := (true, "b335e2562950467c89b5fb6f91d5e773ab12e05ac455a243c514264c59c76deb"), looks := true }, kinds := [], alts := [], laidByText := true, laidKinds := [.data, .pinned], laidTests := true, laidLooks := .later }
def NamedPastCardSaid : Prop := Claim7.holds Tryz.pinned (.plain (OpenSpec.ofChange namedPastSpec)) namedPastCard

/-- THE TIED CARD OF 'quiltworklaw07.NamedGroups'. -/
def namedGroupsCard : Claim7 := { stood := { row := namedGroupsRow, standIns := [], harness := (true, "b335e2562950467c89b5fb6f91d5e773ab12e05ac455a243c514264c59c76deb"), looks := true }, kinds := [], alts := [], laidByText := true, laidKinds := [.data, .pinned], laidTests := true, laidLooks := .later }
def NamedGroupsCardSaid : Prop := Claim7.holds Tryz.pinned (.plain (OpenSpec.ofChange namedGroupsSpec)) namedGroupsCard

/-- THE TIED CARD OF 'quiltworklaw07.NamedOwn'. -/
def namedOwnCard : Claim7 := { stood := { row := namedOwnRow, standIns := [], harness := (true, "b335e2562950467c89b5fb6f91d5e773ab12e05ac455a243c514264c59c76deb"), looks := true }, kinds := [], alts := [], laidByText := true, laidKinds := [.data, .pinned], laidTests := true, laidLooks := .later }
def NamedOwnCardSaid : Prop := Claim7.holds Tryz.pinned (.plain (OpenSpec.ofChange namedOwnSpec)) namedOwnCard

/-- THE TIED CARD OF 'quiltworklaw07.NamedFits'. -/
def namedFitsCard : Claim7 := { stood := { row := namedFitsRow, standIns := [], harness := (true, "b335e2562950467c89b5fb6f91d5e773ab12e05ac455a243c514264c59c76deb"), looks := true }, kinds := [], alts := [], laidByText := true, laidKinds := [.data, .pinned], laidTests := true, laidLooks := .later }
def NamedFitsCardSaid : Prop := Claim7.holds Tryz.pinned (.plain (OpenSpec.ofChange namedFitsSpec)) namedFitsCard

/-- THE SECOND FORM's CARD OF 'quiltworklaw07.NamedRight'. -/
def namedRightUptoCard : Claim7 := { stood := { row := namedRightUptoRow, standIns := [], harness := (true, "b335e2562950467c89b5fb6f91d5e773ab12e05ac455a243c514264c59c76deb"), looks := true }, kinds := [], alts := [], laidByText := true, laidKinds := [.data, .pinned], laidTests := true, laidLooks := .later }
def NamedRightUptoCardSaid : Prop := Claim7.holds Tryz.pinned (.plain (OpenSpec.upto namedRightSpec)) namedRightUptoCard

/-- THE SECOND FORM's CARD OF 'quiltworklaw07.NamedSwaps'. -/
def namedSwapsUptoCard : Claim7 := { stood := { row := namedSwapsUptoRow, standIns := [], harness := (true, "b335e2562950467c89b5fb6f91d5e773ab12e05ac455a243c514264c59c76deb"), looks := true }, kinds := [], alts := [], laidByText := true, laidKinds := [.data, .pinned], laidTests := true, laidLooks := .later }
def NamedSwapsUptoCardSaid : Prop := Claim7.holds Tryz.pinned (.plain (OpenSpec.upto namedSwapsSpec)) namedSwapsUptoCard

/-- THE SECOND FORM's CARD OF 'quiltworklaw07.NamedPast'. -/
def namedPastUptoCard : Claim7 := { stood := { row := namedPastUptoRow, standIns := [], harness := (true, "b335e2562950467c89b5fb6f91d5e773ab12e05ac455a243c514264c59c76deb"), looks := true }, kinds := [], alts := [], laidByText := true, laidKinds := [.data, .pinned], laidTests := true, laidLooks := .later }
def NamedPastUptoCardSaid : Prop := Claim7.holds Tryz.pinned (.plain (OpenSpec.upto namedPastSpec)) namedPastUptoCard

/-- THE SECOND FORM's CARD OF 'quiltworklaw07.NamedGroups'. -/
def namedGroupsUptoCard : Claim7 := { stood := { row := namedGroupsUptoRow, standIns := [], harness := (true, "b335e2562950467c89b5fb6f91d5e773ab12e05ac455a243c514264c59c76deb"), looks := true }, kinds := [], alts := [], laidByText := true, laidKinds := [.data, .pinned], laidTests := true, laidLooks := .later }
def NamedGroupsUptoCardSaid : Prop := Claim7.holds Tryz.pinned (.plain (OpenSpec.upto namedGroupsSpec)) namedGroupsUptoCard

/-- THE SECOND FORM's CARD OF 'quiltworklaw07.NamedOwn'. -/
def namedOwnUptoCard : Claim7 := { stood := { row := namedOwnUptoRow, standIns := [], harness := (true, "b335e2562950467c89b5fb6f91d5e773ab12e05ac455a243c514264c59c76deb"), looks := true }, kinds := [], alts := [], laidByText := true, laidKinds := [.data, .pinned], laidTests := true, laidLooks := .later }
def NamedOwnUptoCardSaid : Prop := Claim7.holds Tryz.pinned (.plain (OpenSpec.upto namedOwnSpec)) namedOwnUptoCard

/-- THE SECOND FORM's CARD OF 'quiltworklaw07.NamedFits'. -/
def namedFitsUptoCard : Claim7 := { stood := { row := namedFitsUptoRow, standIns := [], harness := (true, "b335e2562950467c89b5fb6f91d5e773ab12e05ac455a243c514264c59c76deb"), looks := true }, kinds := [], alts := [], laidByText := true, laidKinds := [.data, .pinned], laidTests := true, laidLooks := .later }
def NamedFitsUptoCardSaid : Prop := Claim7.holds Tryz.pinned (.plain (OpenSpec.upto namedFitsSpec)) namedFitsUptoCard
end Rows
end Go.Proofs.YtogcgfdfabnjhaaGreatDoor
