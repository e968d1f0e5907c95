/-
  NARROWER THAN 'FOR EVERY INPUT', by the rows' own cells (each row's printed sentence says how): NamedRight: laid · NamedSwaps: laid · NamedPast: laid · NamedGroups: laid · NamedOwn: laid · NamedFits: laid.
  DERIVED. THE GIVEN ROWS OF THIS SEAT. 6 by the template 'for every input the law returns true; each argument reads behind the call as it read before'; 0 by the template 'total and deterministic' (their statements: YtogcgfdfabnjhaaGreatDoorTotals.lean).
  GIVEN WITH THE SEED: the statements are not yours to turn. If you find one false, say at which input.
  Laid BY PROGRAM, IN A SANDBOX (cutbox-rows.mjs): the forced cells as the released guide's own fill.sh prints them over the translation 6e4ad215929ffd87… (all of the seat's roots in one cut). By AI agents, Wed Nov 11 2026. No macro, syntax, notation, axiom, sorry.
-/
import Derived.Test.YtogcgfdfabnjhaaGreatDoorChecked
import GoSem.PinnedTables
import GoSem.Claim
import GoSem.ClaimJoined
import GoSem.ClaimMapViews
import Derived.JoinedTies
import Derived.KernelRfl
namespace Go.Proofs.YtogcgfdfabnjhaaGreatDoor
/- THE CELL 'sum', in the pinned program and in every row, IS THE sha256 OF THE DUMP (.gsa) THAT YtogcgfdfabnjhaaGreatDoorProg.lean LOADS. Nothing in Lean hashes anything: it is a label: what it is worth is what the hold of that sum in a sandbox is worth. -/
noncomputable def Tryz.pinned : Pinned := { name := "ytogcgfdfabnjhaagreatdoor", sum := "6e4ad215929ffd87dc1730c5d2973381cf1abb01b9727f917d1085480cb3d477", checked := Tryz.checked }
namespace Rows
def none {H : Type} : Left H := { results := [], args := [] }

/- WHAT THE LISTED PACKAGE-LEVEL VARIABLES READ AS WHEN THE CALL BEGINS. Each datum BY PROGRAM (the guide's laid-datum.mjs) off the statement by which the dump's own 'gosem.cut.vars' lays the variable. In a bare row this is a premise. The card (YtogcgfdfabnjhaaGreatDoorCards.lean) ties it to the program's text. -/
def laid_unicode_utf8_acceptRanges {H : Type} : DataW H := .agg [.agg [.lit (.int .u8 128), .lit (.int .u8 191)], .agg [.lit (.int .u8 160), .lit (.int .u8 191)], .agg [.lit (.int .u8 128), .lit (.int .u8 159)], .agg [.lit (.int .u8 144), .lit (.int .u8 191)], .agg [.lit (.int .u8 128), .lit (.int .u8 143)], .agg [.lit (.int .u8 0), .lit (.int .u8 0)], .agg [.lit (.int .u8 0), .lit (.int .u8 0)], .agg [.lit (.int .u8 0), .lit (.int .u8 0)], .agg [.lit (.int .u8 0), .lit (.int .u8 0)], .agg [.lit (.int .u8 0), .lit (.int .u8 0)], .agg [.lit (.int .u8 0), .lit (.int .u8 0)], .agg [.lit (.int .u8 0), .lit (.int .u8 0)], .agg [.lit (.int .u8 0), .lit (.int .u8 0)], .agg [.lit (.int .u8 0), .lit (.int .u8 0)], .agg [.lit (.int .u8 0), .lit (.int .u8 0)], .agg [.lit (.int .u8 0), .lit (.int .u8 0)]]
/-- One of Go's own tables, pinned by name: the form's constant. -/
def laid_unicode_utf8_first : DataW Unit := Go.Pinned.utf8First

/-- 'quiltworklaw07.NamedRight': WHATEVER THE INPUT: true; the input reads as it did. -/
def namedRightSpec : ChangeSpec := { name := "namedRight", fn := fun _ => fun
  | [d1, d2] => { results := [.lit (.bool true)], args := [d1, d2] }
  | _ => none }
def namedRightRow : OpenClaim := { program := "ytogcgfdfabnjhaagreatdoor", sum := "6e4ad215929ffd87dc1730c5d2973381cf1abb01b9727f917d1085480cb3d477", func := "quiltwork/quiltworklaw07.NamedRight", spec := "namedRight", inPlace := ["internal/bytealg.IndexByteString", "internal/bytealg.IndexString"], unfollowed := true, recurses := true, named := ["internal/bytealg.MaxLen", "unicode/utf8.first", "unicode/utf8.acceptRanges"], apart := false, laid := [("unicode/utf8.acceptRanges", laid_unicode_utf8_acceptRanges), ("unicode/utf8.first", laid_unicode_utf8_first)] }
def NamedRightSaid : Prop := namedRightRow.holds Tryz.pinned (OpenSpec.ofChange namedRightSpec)

/-- ITS FALSE NEIGHBOUR: 'it returns false'. Refute it at one input. -/
def namedRightWrong : ChangeSpec := { name := "namedRight", fn := fun _ => fun
  | [d1, d2] => { results := [.lit (.bool false)], args := [d1, d2] }
  | _ => none }
def NamedRightWrongFalsely : Prop := namedRightRow.holds Tryz.pinned (OpenSpec.ofChange namedRightWrong)

/-- 'quiltworklaw07.NamedSwaps': WHATEVER THE INPUT: true; the input reads as it did. -/
def namedSwapsSpec : ChangeSpec := { name := "namedSwaps", fn := fun _ => fun
  | [d1, d2] => { results := [.lit (.bool true)], args := [d1, d2] }
  | _ => none }
def namedSwapsRow : OpenClaim := { program := "ytogcgfdfabnjhaagreatdoor", sum := "6e4ad215929ffd87dc1730c5d2973381cf1abb01b9727f917d1085480cb3d477", func := "quiltwork/quiltworklaw07.NamedSwaps", spec := "namedSwaps", inPlace := ["internal/bytealg.IndexByteString", "internal/bytealg.IndexString"], unfollowed := true, recurses := true, named := ["internal/bytealg.MaxLen", "unicode/utf8.first", "unicode/utf8.acceptRanges"], apart := false, laid := [("unicode/utf8.acceptRanges", laid_unicode_utf8_acceptRanges), ("unicode/utf8.first", laid_unicode_utf8_first)] }
def NamedSwapsSaid : Prop := namedSwapsRow.holds Tryz.pinned (OpenSpec.ofChange namedSwapsSpec)

/-- ITS FALSE NEIGHBOUR: 'it returns false'. Refute it at one input. -/
def namedSwapsWrong : ChangeSpec := { name := "namedSwaps", fn := fun _ => fun
  | [d1, d2] => { results := [.lit (.bool false)], args := [d1, d2] }
  | _ => none }
def NamedSwapsWrongFalsely : Prop := namedSwapsRow.holds Tryz.pinned (OpenSpec.ofChange namedSwapsWrong)

/-- 'quiltworklaw07.NamedPast': WHATEVER THE INPUT: true; the input reads as it did. -/
def namedPastSpec : ChangeSpec := { name := "namedPast", fn := fun _ => fun
  | [d1, d2] => { results := [.lit (.bool true)], args := [d1, d2] }
  | _ => none }
def namedPastRow : OpenClaim := { program := "ytogcgfdfabnjhaagreatdoor", sum := "6e4ad215929ffd87dc1730c5d2973381cf1abb01b9727f917d1085480cb3d477", func := "quiltwork/quiltworklaw07.NamedPast", spec := "namedPast", inPlace := ["internal/bytealg.IndexByteString", "internal/bytealg.IndexString"], unfollowed := true, recurses := true, named := ["internal/bytealg.MaxLen", "unicode/utf8.first", "unicode/utf8.acceptRanges"], apart := false, laid := [("unicode/utf8.acceptRanges", laid_unicode_utf8_acceptRanges), ("unicode/utf8.first", laid_unicode_utf8_first)] }
def NamedPastSaid : Prop := namedPastRow.holds Tryz.pinned (OpenSpec.ofChange namedPastSpec)

/-- ITS FALSE NEIGHBOUR: 'it returns false'. Refute it at one input. -/
def namedPastWrong : ChangeSpec := { name := "namedPast", fn := fun _ => fun
  | [d1, d2] => { results := [.lit (.bool false)], args := [d1, d2] }
  | _ => none }
def NamedPastWrongFalsely : Prop := namedPastRow.holds Tryz.pinned (OpenSpec.ofChange namedPastWrong)

/-- 'quiltworklaw07.NamedGroups': WHATEVER THE INPUT: true; the input reads as it did. -/
def namedGroupsSpec : ChangeSpec := { name := "namedGroups", fn := fun _ => fun
  | [d] => { results := [.lit (.bool true)], args := [d] }
  | _ => none }
def namedGroupsRow : OpenClaim := { program := "ytogcgfdfabnjhaagreatdoor", sum := "6e4ad215929ffd87dc1730c5d2973381cf1abb01b9727f917d1085480cb3d477", func := "quiltwork/quiltworklaw07.NamedGroups", spec := "namedGroups", inPlace := ["internal/bytealg.IndexByteString", "internal/bytealg.IndexString"], unfollowed := true, recurses := true, named := ["internal/bytealg.MaxLen", "unicode/utf8.first", "unicode/utf8.acceptRanges"], apart := false, laid := [("unicode/utf8.acceptRanges", laid_unicode_utf8_acceptRanges), ("unicode/utf8.first", laid_unicode_utf8_first)] }
def NamedGroupsSaid : Prop := namedGroupsRow.holds Tryz.pinned (OpenSpec.ofChange namedGroupsSpec)

/-- ITS FALSE NEIGHBOUR: 'it returns false'. Refute it at one input. -/
def namedGroupsWrong : ChangeSpec := { name := "namedGroups", fn := fun _ => fun
  | [d] => { results := [.lit (.bool false)], args := [d] }
  | _ => none }
def NamedGroupsWrongFalsely : Prop := namedGroupsRow.holds Tryz.pinned (OpenSpec.ofChange namedGroupsWrong)

/-- 'quiltworklaw07.NamedOwn': WHATEVER THE INPUT: true; the input reads as it did. -/
def namedOwnSpec : ChangeSpec := { name := "namedOwn", fn := fun _ => fun
  | [d1, d2] => { results := [.lit (.bool true)], args := [d1, d2] }
  | _ => none }
def namedOwnRow : OpenClaim := { program := "ytogcgfdfabnjhaagreatdoor", sum := "6e4ad215929ffd87dc1730c5d2973381cf1abb01b9727f917d1085480cb3d477", func := "quiltwork/quiltworklaw07.NamedOwn", spec := "namedOwn", inPlace := ["internal/bytealg.IndexByteString", "internal/bytealg.IndexString"], unfollowed := true, recurses := true, named := ["internal/bytealg.MaxLen", "unicode/utf8.first", "unicode/utf8.acceptRanges"], apart := false, laid := [("unicode/utf8.acceptRanges", laid_unicode_utf8_acceptRanges), ("unicode/utf8.first", laid_unicode_utf8_first)] }
def NamedOwnSaid : Prop := namedOwnRow.holds Tryz.pinned (OpenSpec.ofChange namedOwnSpec)

/-- ITS FALSE NEIGHBOUR: 'it returns false'. Refute it at one input. -/
def namedOwnWrong : ChangeSpec := { name := "namedOwn", fn := fun _ => fun
  | [d1, d2] => { results := [.lit (.bool false)], args := [d1, d2] }
  | _ => none }
def NamedOwnWrongFalsely : Prop := namedOwnRow.holds Tryz.pinned (OpenSpec.ofChange namedOwnWrong)

/-- 'quiltworklaw07.NamedFits': WHATEVER THE INPUT: true; the input reads as it did. -/
def namedFitsSpec : ChangeSpec := { name := "namedFits", fn := fun _ => fun
  | [d1, d2] => { results := [.lit (.bool true)], args := [d1, d2] }
  | _ => none }
def namedFitsRow : OpenClaim := { program := "ytogcgfdfabnjhaagreatdoor", sum := "6e4ad215929ffd87dc1730c5d2973381cf1abb01b9727f917d1085480cb3d477", func := "quiltwork/quiltworklaw07.NamedFits", spec := "namedFits", inPlace := ["internal/bytealg.IndexByteString", "internal/bytealg.IndexString", "maps.clone"], unfollowed := true, recurses := true, named := ["internal/bytealg.MaxLen", "unicode/utf8.first", "unicode/utf8.acceptRanges"], apart := false, laid := [("unicode/utf8.acceptRanges", laid_unicode_utf8_acceptRanges), ("unicode/utf8.first", laid_unicode_utf8_first)] }
def NamedFitsSaid : Prop := namedFitsRow.holds Tryz.pinned (OpenSpec.ofChange namedFitsSpec)

/-- ITS FALSE NEIGHBOUR: 'it returns false'. Refute it at one input. -/
def namedFitsWrong : ChangeSpec := { name := "namedFits", fn := fun _ => fun
  | [d1, d2] => { results := [.lit (.bool false)], args := [d1, d2] }
  | _ => none }
def NamedFitsWrongFalsely : Prop := namedFitsRow.holds Tryz.pinned (OpenSpec.ofChange namedFitsWrong)

/- THE SECOND FORM. 'bulk': how many values and letters a reading holds, each counted each time it is reached (what is shared counts as often as it is met; a slice's spare places count too). A statement '..UptoSaid' is the law's where the arguments, and the package variables that the reading takes, are together of bulk at most 1048576: NARROWER than '..Said'. Prove '..Said' where nothing that the law and all that it calls make is longer than what came in: it says more and counts as full. Else prove '..UptoSaid'. A law counts once. -/
mutual
def uptoBulk {H : Type} : DataW H → Nat
  | .lit (.string bytes) => bytes.length + 1
  | .lit _ => 1
  | .nil => 1
  | .ptr d => uptoBulk d + 1
  | .slice elems spare => uptoBulkAll elems + uptoBulkAll spare + 1
  | .agg parts => uptoBulkAll parts + 1
  | .iface _ d => uptoBulk d + 1
  | .map entries => uptoBulkEntries entries + 1
  | .held _ => 1
def uptoBulkAll {H : Type} : List (DataW H) → Nat
  | [] => 0
  | d :: r => uptoBulk d + uptoBulkAll r
def uptoBulkEntries {H : Type} : List (Lit × DataW H) → Nat
  | [] => 0
  | x :: r => uptoBulkEntry x + uptoBulkEntries r
def uptoBulkEntry {H : Type} : Lit × DataW H → Nat
  | (.string bytes, d) => bytes.length + uptoBulk d + 1
  | (_, d) => uptoBulk d + 1
 end
def uptoSmall : (H : Type) → List (DataW H) → Bool := fun _ ds => decide (uptoBulkAll ds ≤ 1048576)
def OpenSpec.upto (s : _root_.Go.ChangeSpec) : _root_.Go.OpenSpec := { _root_.Go.OpenSpec.ofChange s with cond := some uptoSmall }

/-- 'quiltworklaw07.NamedRight', WHERE WHAT IT READS IS OF BULK AT MOST 1048576: true; the input reads as it did. -/
def namedRightUptoRow : OpenClaim := { program := "ytogcgfdfabnjhaagreatdoor", sum := "6e4ad215929ffd87dc1730c5d2973381cf1abb01b9727f917d1085480cb3d477", func := "quiltwork/quiltworklaw07.NamedRight", spec := "namedRight", inPlace := ["internal/bytealg.IndexByteString", "internal/bytealg.IndexString"], unfollowed := true, recurses := true, named := ["internal/bytealg.MaxLen", "unicode/utf8.first", "unicode/utf8.acceptRanges"], apart := false, laid := [("unicode/utf8.acceptRanges", laid_unicode_utf8_acceptRanges), ("unicode/utf8.first", laid_unicode_utf8_first)], narrowed := true }
def NamedRightUptoSaid : Prop := namedRightUptoRow.holds Tryz.pinned (OpenSpec.upto namedRightSpec)

/-- 'quiltworklaw07.NamedSwaps', WHERE WHAT IT READS IS OF BULK AT MOST 1048576: true; the input reads as it did. -/
def namedSwapsUptoRow : OpenClaim := { program := "ytogcgfdfabnjhaagreatdoor", sum := "6e4ad215929ffd87dc1730c5d2973381cf1abb01b9727f917d1085480cb3d477", func := "quiltwork/quiltworklaw07.NamedSwaps", spec := "namedSwaps", inPlace := ["internal/bytealg.IndexByteString", "internal/bytealg.IndexString"], unfollowed := true, recurses := true, named := ["internal/bytealg.MaxLen", "unicode/utf8.first", "unicode/utf8.acceptRanges"], apart := false, laid := [("unicode/utf8.acceptRanges", laid_unicode_utf8_acceptRanges), ("unicode/utf8.first", laid_unicode_utf8_first)], narrowed := true }
def NamedSwapsUptoSaid : Prop := namedSwapsUptoRow.holds Tryz.pinned (OpenSpec.upto namedSwapsSpec)

/-- 'quiltworklaw07.NamedPast', WHERE WHAT IT READS IS OF BULK AT MOST 1048576: true; the input reads as it did. -/
def namedPastUptoRow : OpenClaim := { program := "ytogcgfdfabnjhaagreatdoor", sum := "6e4ad215929ffd87dc1730c5d2973381cf1abb01b9727f917d1085480cb3d477", func := "quiltwork/quiltworklaw07.NamedPast", spec := "namedPast", inPlace := ["internal/bytealg.IndexByteString", "internal/bytealg.IndexString"], unfollowed := true, recurses := true, named := ["internal/bytealg.MaxLen", "unicode/utf8.first", "unicode/utf8.acceptRanges"], apart := false, laid := [("unicode/utf8.acceptRanges", laid_unicode_utf8_acceptRanges), ("unicode/utf8.first", laid_unicode_utf8_first)], narrowed := true }
def NamedPastUptoSaid : Prop := namedPastUptoRow.holds Tryz.pinned (OpenSpec.upto namedPastSpec)

/-- 'quiltworklaw07.NamedGroups', WHERE WHAT IT READS IS OF BULK AT MOST 1048576: true; the input reads as it did. -/
def namedGroupsUptoRow : OpenClaim := { program := "ytogcgfdfabnjhaagreatdoor", sum := "6e4ad215929ffd87dc1730c5d2973381cf1abb01b9727f917d1085480cb3d477", func := "quiltwork/quiltworklaw07.NamedGroups", spec := "namedGroups", inPlace := ["internal/bytealg.IndexByteString", "internal/bytealg.IndexString"], unfollowed := true, recurses := true, named := ["internal/bytealg.MaxLen", "unicode/utf8.first", "unicode/utf8.acceptRanges"], apart := false, laid := [("unicode/utf8.acceptRanges", laid_unicode_utf8_acceptRanges), ("unicode/utf8.first", laid_unicode_utf8_first)], narrowed := true }
def NamedGroupsUptoSaid : Prop := namedGroupsUptoRow.holds Tryz.pinned (OpenSpec.upto namedGroupsSpec)

/-- 'quiltworklaw07.NamedOwn', WHERE WHAT IT READS IS OF BULK AT MOST 1048576: true; the input reads as it did. -/
def namedOwnUptoRow : OpenClaim := { program := "ytogcgfdfabnjhaagreatdoor", sum := "6e4ad215929ffd87dc1730c5d2973381cf1abb01b9727f917d1085480cb3d477", func := "quiltwork/quiltworklaw07.NamedOwn", spec := "namedOwn", inPlace := ["internal/bytealg.IndexByteString", "internal/bytealg.IndexString"], unfollowed := true, recurses := true, named := ["internal/bytealg.MaxLen", "unicode/utf8.first", "unicode/utf8.acceptRanges"], apart := false, laid := [("unicode/utf8.acceptRanges", laid_unicode_utf8_acceptRanges), ("unicode/utf8.first", laid_unicode_utf8_first)], narrowed := true }
def NamedOwnUptoSaid : Prop := namedOwnUptoRow.holds Tryz.pinned (OpenSpec.upto namedOwnSpec)

/-- 'quiltworklaw07.NamedFits', WHERE WHAT IT READS IS OF BULK AT MOST 1048576: true; the input reads as it did. -/
def namedFitsUptoRow : OpenClaim := { program := "ytogcgfdfabnjhaagreatdoor", sum := "6e4ad215929ffd87dc1730c5d2973381cf1abb01b9727f917d1085480cb3d477", func := "quiltwork/quiltworklaw07.NamedFits", spec := "namedFits", inPlace := ["internal/bytealg.IndexByteString", "internal/bytealg.IndexString", "maps.clone"], unfollowed := true, recurses := true, named := ["internal/bytealg.MaxLen", "unicode/utf8.first", "unicode/utf8.acceptRanges"], apart := false, laid := [("unicode/utf8.acceptRanges", laid_unicode_utf8_acceptRanges), ("unicode/utf8.first", laid_unicode_utf8_first)], narrowed := true }
def NamedFitsUptoSaid : Prop := namedFitsUptoRow.holds Tryz.pinned (OpenSpec.upto namedFitsSpec)

end Rows
end Go.Proofs.YtogcgfdfabnjhaaGreatDoor
