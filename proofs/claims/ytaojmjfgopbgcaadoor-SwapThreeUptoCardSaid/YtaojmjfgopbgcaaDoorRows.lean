/-
  NARROWER THAN 'FOR EVERY INPUT', by the rows' own cells (each row's printed sentence says how): SwapTells: laid · SwapBack: laid · SwapThree: laid · SwapKeeps: laid · SwapSquare: laid · SwapInverts: laid.
  DERIVED. THE GIVEN ROWS OF THIS SEAT. 6 by the template 'for every input the law returns true; each argument reads behind the call as it read before'; 0 by the template 'total and deterministic' (their statements: YtaojmjfgopbgcaaDoorTotals.lean).
  GIVEN WITH THE SEED: the statements are not yours to turn. If you find one false, say at which input.
  Laid BY PROGRAM, IN A SANDBOX (cutbox-rows.mjs): the forced cells as the released guide's own fill.sh prints them over the translation bb3330ddd637a205… (all of the seat's roots in one cut). By AI agents, Wed Nov 11 2026. No macro, syntax, notation, axiom, sorry.
-/
import Derived.Test.YtaojmjfgopbgcaaDoorChecked
import GoSem.PinnedTables
import GoSem.Claim
import GoSem.ClaimJoined
import GoSem.ClaimMapViews
import Derived.JoinedTies
import Derived.KernelRfl
namespace Go.Proofs.YtaojmjfgopbgcaaDoor
/- THE CELL 'sum', in the pinned program and in every row, IS THE sha256 OF THE DUMP (.gsa) THAT YtaojmjfgopbgcaaDoorProg.lean LOADS. Nothing in Lean hashes anything: it is a label: what it is worth is what the hold of that sum in a sandbox is worth. -/
noncomputable def Tryd.pinned : Pinned := { name := "ytaojmjfgopbgcaadoor", sum := "bb3330ddd637a2051320ada9813e887b57b04119a0e11c8673845e81acc17815", checked := Tryd.checked }
namespace Rows
def none {H : Type} : Left H := { results := [], args := [] }

/- WHAT THE LISTED PACKAGE-LEVEL VARIABLES READ AS WHEN THE CALL BEGINS. Each datum BY PROGRAM (the guide's laid-datum.mjs) off the statement by which the dump's own 'gosem.cut.vars' lays the variable. In a bare row this is a premise. The card (YtaojmjfgopbgcaaDoorCards.lean) ties it to the program's text. -/
def laid_unicode_utf8_acceptRanges {H : Type} : DataW H := .agg [.agg [.lit (.int .u8 128), .lit (.int .u8 191)], .agg [.lit (.int .u8 160), .lit (.int .u8 191)], .agg [.lit (.int .u8 128), .lit (.int .u8 159)], .agg [.lit (.int .u8 144), .lit (.int .u8 191)], .agg [.lit (.int .u8 128), .lit (.int .u8 143)], .agg [.lit (.int .u8 0), .lit (.int .u8 0)], .agg [.lit (.int .u8 0), .lit (.int .u8 0)], .agg [.lit (.int .u8 0), .lit (.int .u8 0)], .agg [.lit (.int .u8 0), .lit (.int .u8 0)], .agg [.lit (.int .u8 0), .lit (.int .u8 0)], .agg [.lit (.int .u8 0), .lit (.int .u8 0)], .agg [.lit (.int .u8 0), .lit (.int .u8 0)], .agg [.lit (.int .u8 0), .lit (.int .u8 0)], .agg [.lit (.int .u8 0), .lit (.int .u8 0)], .agg [.lit (.int .u8 0), .lit (.int .u8 0)], .agg [.lit (.int .u8 0), .lit (.int .u8 0)]]
/-- One of Go's own tables, pinned by name: the form's constant. -/
def laid_unicode_utf8_first : DataW Unit := Go.Pinned.utf8First

/-- 'quiltworklaw04.SwapTells': WHATEVER THE INPUT: true; the input reads as it did. -/
def swapTellsSpec : ChangeSpec := { name := "swapTells", fn := fun _ => fun
  | [d1, d2] => { results := [.lit (.bool true)], args := [d1, d2] }
  | _ => none }
def swapTellsRow : OpenClaim := { program := "ytaojmjfgopbgcaadoor", sum := "bb3330ddd637a2051320ada9813e887b57b04119a0e11c8673845e81acc17815", func := "quiltwork/quiltworklaw04.SwapTells", spec := "swapTells", inPlace := ["internal/bytealg.IndexByteString", "internal/bytealg.IndexString"], unfollowed := true, recurses := true, named := ["unicode/utf8.first", "unicode/utf8.acceptRanges", "internal/bytealg.MaxLen"], apart := false, laid := [("unicode/utf8.acceptRanges", laid_unicode_utf8_acceptRanges), ("unicode/utf8.first", laid_unicode_utf8_first)] }
def SwapTellsSaid : Prop := swapTellsRow.holds Tryd.pinned (OpenSpec.ofChange swapTellsSpec)

/-- ITS FALSE NEIGHBOUR: 'it returns false'. Refute it at one input. -/
def swapTellsWrong : ChangeSpec := { name := "swapTells", fn := fun _ => fun
  | [d1, d2] => { results := [.lit (.bool false)], args := [d1, d2] }
  | _ => none }
def SwapTellsWrongFalsely : Prop := swapTellsRow.holds Tryd.pinned (OpenSpec.ofChange swapTellsWrong)

/-- 'quiltworklaw04.SwapBack': WHATEVER THE INPUT: true; the input reads as it did. -/
def swapBackSpec : ChangeSpec := { name := "swapBack", fn := fun _ => fun
  | [d1, d2] => { results := [.lit (.bool true)], args := [d1, d2] }
  | _ => none }
def swapBackRow : OpenClaim := { program := "ytaojmjfgopbgcaadoor", sum := "bb3330ddd637a2051320ada9813e887b57b04119a0e11c8673845e81acc17815", func := "quiltwork/quiltworklaw04.SwapBack", spec := "swapBack", inPlace := ["internal/bytealg.IndexByteString", "internal/bytealg.IndexString"], unfollowed := true, recurses := true, named := ["unicode/utf8.first", "unicode/utf8.acceptRanges", "internal/bytealg.MaxLen"], apart := false, laid := [("unicode/utf8.acceptRanges", laid_unicode_utf8_acceptRanges), ("unicode/utf8.first", laid_unicode_utf8_first)] }
def SwapBackSaid : Prop := swapBackRow.holds Tryd.pinned (OpenSpec.ofChange swapBackSpec)

/-- ITS FALSE NEIGHBOUR: 'it returns false'. Refute it at one input. -/
def swapBackWrong : ChangeSpec := { name := "swapBack", fn := fun _ => fun
  | [d1, d2] => { results := [.lit (.bool false)], args := [d1, d2] }
  | _ => none }
def SwapBackWrongFalsely : Prop := swapBackRow.holds Tryd.pinned (OpenSpec.ofChange swapBackWrong)

/-- 'quiltworklaw04.SwapThree': WHATEVER THE INPUT: true; the input reads as it did. -/
def swapThreeSpec : ChangeSpec := { name := "swapThree", fn := fun _ => fun
  | [d] => { results := [.lit (.bool true)], args := [d] }
  | _ => none }
def swapThreeRow : OpenClaim := { program := "ytaojmjfgopbgcaadoor", sum := "bb3330ddd637a2051320ada9813e887b57b04119a0e11c8673845e81acc17815", func := "quiltwork/quiltworklaw04.SwapThree", spec := "swapThree", inPlace := ["internal/bytealg.IndexByteString", "internal/bytealg.IndexString"], unfollowed := true, recurses := true, named := ["unicode/utf8.first", "unicode/utf8.acceptRanges", "internal/bytealg.MaxLen"], apart := false, laid := [("unicode/utf8.acceptRanges", laid_unicode_utf8_acceptRanges), ("unicode/utf8.first", laid_unicode_utf8_first)] }
def SwapThreeSaid : Prop := swapThreeRow.holds Tryd.pinned (OpenSpec.ofChange swapThreeSpec)

/-- ITS FALSE NEIGHBOUR: 'it returns false'. Refute it at one input. -/
def swapThreeWrong : ChangeSpec := { name := "swapThree", fn := fun _ => fun
  | [d] => { results := [.lit (.bool false)], args := [d] }
  | _ => none }
def SwapThreeWrongFalsely : Prop := swapThreeRow.holds Tryd.pinned (OpenSpec.ofChange swapThreeWrong)

/-- 'quiltworklaw04.SwapKeeps': WHATEVER THE INPUT: true; the input reads as it did. -/
def swapKeepsSpec : ChangeSpec := { name := "swapKeeps", fn := fun _ => fun
  | [d1, d2] => { results := [.lit (.bool true)], args := [d1, d2] }
  | _ => none }
def swapKeepsRow : OpenClaim := { program := "ytaojmjfgopbgcaadoor", sum := "bb3330ddd637a2051320ada9813e887b57b04119a0e11c8673845e81acc17815", func := "quiltwork/quiltworklaw04.SwapKeeps", spec := "swapKeeps", inPlace := ["internal/bytealg.IndexByteString", "internal/bytealg.IndexString"], unfollowed := true, recurses := true, named := ["unicode/utf8.first", "unicode/utf8.acceptRanges", "internal/bytealg.MaxLen"], apart := false, laid := [("unicode/utf8.acceptRanges", laid_unicode_utf8_acceptRanges), ("unicode/utf8.first", laid_unicode_utf8_first)] }
def SwapKeepsSaid : Prop := swapKeepsRow.holds Tryd.pinned (OpenSpec.ofChange swapKeepsSpec)

/-- ITS FALSE NEIGHBOUR: 'it returns false'. Refute it at one input. -/
def swapKeepsWrong : ChangeSpec := { name := "swapKeeps", fn := fun _ => fun
  | [d1, d2] => { results := [.lit (.bool false)], args := [d1, d2] }
  | _ => none }
def SwapKeepsWrongFalsely : Prop := swapKeepsRow.holds Tryd.pinned (OpenSpec.ofChange swapKeepsWrong)

/-- 'quiltworklaw04.SwapSquare': WHATEVER THE INPUT: true; the input reads as it did. -/
def swapSquareSpec : ChangeSpec := { name := "swapSquare", fn := fun _ => fun
  | [d1, d2] => { results := [.lit (.bool true)], args := [d1, d2] }
  | _ => none }
def swapSquareRow : OpenClaim := { program := "ytaojmjfgopbgcaadoor", sum := "bb3330ddd637a2051320ada9813e887b57b04119a0e11c8673845e81acc17815", func := "quiltwork/quiltworklaw04.SwapSquare", spec := "swapSquare", inPlace := ["internal/bytealg.IndexByteString", "internal/bytealg.IndexString"], unfollowed := true, recurses := true, named := ["unicode/utf8.first", "unicode/utf8.acceptRanges", "internal/bytealg.MaxLen"], apart := false, laid := [("unicode/utf8.acceptRanges", laid_unicode_utf8_acceptRanges), ("unicode/utf8.first", laid_unicode_utf8_first)] }
def SwapSquareSaid : Prop := swapSquareRow.holds Tryd.pinned (OpenSpec.ofChange swapSquareSpec)

/-- ITS FALSE NEIGHBOUR: 'it returns false'. Refute it at one input. -/
def swapSquareWrong : ChangeSpec := { name := "swapSquare", fn := fun _ => fun
  | [d1, d2] => { results := [.lit (.bool false)], args := [d1, d2] }
  | _ => none }
def SwapSquareWrongFalsely : Prop := swapSquareRow.holds Tryd.pinned (OpenSpec.ofChange swapSquareWrong)

/-- 'quiltworklaw04.SwapInverts': WHATEVER THE INPUT: true; the input reads as it did. -/
def swapInvertsSpec : ChangeSpec := { name := "swapInverts", fn := fun _ => fun
  | [d1, d2] => { results := [.lit (.bool true)], args := [d1, d2] }
  | _ => none }
def swapInvertsRow : OpenClaim := { program := "ytaojmjfgopbgcaadoor", sum := "bb3330ddd637a2051320ada9813e887b57b04119a0e11c8673845e81acc17815", func := "quiltwork/quiltworklaw04.SwapInverts", spec := "swapInverts", inPlace := ["internal/bytealg.IndexByteString", "internal/bytealg.IndexString"], unfollowed := true, recurses := true, named := ["unicode/utf8.first", "unicode/utf8.acceptRanges", "internal/bytealg.MaxLen"], apart := false, laid := [("unicode/utf8.acceptRanges", laid_unicode_utf8_acceptRanges), ("unicode/utf8.first", laid_unicode_utf8_first)] }
def SwapInvertsSaid : Prop := swapInvertsRow.holds Tryd.pinned (OpenSpec.ofChange swapInvertsSpec)

/-- ITS FALSE NEIGHBOUR: 'it returns false'. Refute it at one input. -/
def swapInvertsWrong : ChangeSpec := { name := "swapInverts", fn := fun _ => fun
  | [d1, d2] => { results := [.lit (.bool false)], args := [d1, d2] }
  | _ => none }
def SwapInvertsWrongFalsely : Prop := swapInvertsRow.holds Tryd.pinned (OpenSpec.ofChange swapInvertsWrong)

/- THE SECOND FORM. 'bulk': how many values and letters a reading holds, each counted each time it is reached (what is shared counts as often as it is met; a slice's spare places count too). A statement '..UptoSaid' is the law's where the arguments, and the package variables that the reading takes, are together of bulk at most 1048576: NARROWER than '..Said'. Prove '..Said' where nothing that the law and all that it calls make is longer than what came in: it says more and counts as full. Else prove '..UptoSaid'. A law counts once. -/
mutual
def uptoBulk {H : Type} : DataW H → Nat
  | .lit (.string bytes) => bytes.length + 1
  | .lit _ => 1
  | .nil => 1
  | .ptr d => uptoBulk d + 1
  | .slice elems spare => uptoBulkAll elems + uptoBulkAll spare + 1
  | .agg parts => uptoBulkAll parts + 1
  | .iface _ d => uptoBulk d + 1
  | .map entries => uptoBulkEntries entries + 1
  | .held _ => 1
def uptoBulkAll {H : Type} : List (DataW H) → Nat
  | [] => 0
  | d :: r => uptoBulk d + uptoBulkAll r
def uptoBulkEntries {H : Type} : List (Lit × DataW H) → Nat
  | [] => 0
  | x :: r => uptoBulkEntry x + uptoBulkEntries r
def uptoBulkEntry {H : Type} : Lit × DataW H → Nat
  | (.string bytes, d) => bytes.length + uptoBulk d + 1
  | (_, d) => uptoBulk d + 1
 end
def uptoSmall : (H : Type) → List (DataW H) → Bool := fun _ ds => decide (uptoBulkAll ds ≤ 1048576)
def OpenSpec.upto (s : _root_.Go.ChangeSpec) : _root_.Go.OpenSpec := { _root_.Go.OpenSpec.ofChange s with cond := some uptoSmall }

/-- 'quiltworklaw04.SwapTells', WHERE WHAT IT READS IS OF BULK AT MOST 1048576: true; the input reads as it did. -/
def swapTellsUptoRow : OpenClaim := { program := "ytaojmjfgopbgcaadoor", sum := "bb3330ddd637a2051320ada9813e887b57b04119a0e11c8673845e81acc17815", func := "quiltwork/quiltworklaw04.SwapTells", spec := "swapTells", inPlace := ["internal/bytealg.IndexByteString", "internal/bytealg.IndexString"], unfollowed := true, recurses := true, named := ["unicode/utf8.first", "unicode/utf8.acceptRanges", "internal/bytealg.MaxLen"], apart := false, laid := [("unicode/utf8.acceptRanges", laid_unicode_utf8_acceptRanges), ("unicode/utf8.first", laid_unicode_utf8_first)], narrowed := true }
def SwapTellsUptoSaid : Prop := swapTellsUptoRow.holds Tryd.pinned (OpenSpec.upto swapTellsSpec)

/-- 'quiltworklaw04.SwapBack', WHERE WHAT IT READS IS OF BULK AT MOST 1048576: true; the input reads as it did. -/
def swapBackUptoRow : OpenClaim := { program := "ytaojmjfgopbgcaadoor", sum := "bb3330ddd637a2051320ada9813e887b57b04119a0e11c8673845e81acc17815", func := "quiltwork/quiltworklaw04.SwapBack", spec := "swapBack", inPlace := ["internal/bytealg.IndexByteString", "internal/bytealg.IndexString"], unfollowed := true, recurses := true, named := ["unicode/utf8.first", "unicode/utf8.acceptRanges", "internal/bytealg.MaxLen"], apart := false, laid := [("unicode/utf8.acceptRanges", laid_unicode_utf8_acceptRanges), ("unicode/utf8.first", laid_unicode_utf8_first)], narrowed := true }
def SwapBackUptoSaid : Prop := swapBackUptoRow.holds Tryd.pinned (OpenSpec.upto swapBackSpec)

/-- 'quiltworklaw04.SwapThree', WHERE WHAT IT READS IS OF BULK AT MOST 1048576: true; the input reads as it did. -/
def swapThreeUptoRow : OpenClaim := { program := "ytaojmjfgopbgcaadoor", sum := "bb3330ddd637a2051320ada9813e887b57b04119a0e11c8673845e81acc17815", func := "quiltwork/quiltworklaw04.SwapThree", spec := "swapThree", inPlace := ["internal/bytealg.IndexByteString", "internal/bytealg.IndexString"], unfollowed := true, recurses := true, named := ["unicode/utf8.first", "unicode/utf8.acceptRanges", "internal/bytealg.MaxLen"], apart := false, laid := [("unicode/utf8.acceptRanges", laid_unicode_utf8_acceptRanges), ("unicode/utf8.first", laid_unicode_utf8_first)], narrowed := true }
def SwapThreeUptoSaid : Prop := swapThreeUptoRow.holds Tryd.pinned (OpenSpec.upto swapThreeSpec)

/-- 'quiltworklaw04.SwapKeeps', WHERE WHAT IT READS IS OF BULK AT MOST 1048576: true; the input reads as it did. -/
def swapKeepsUptoRow : OpenClaim := { program := "ytaojmjfgopbgcaadoor", sum := "bb3330ddd637a2051320ada9813e887b57b04119a0e11c8673845e81acc17815", func := "quiltwork/quiltworklaw04.SwapKeeps", spec := "swapKeeps", inPlace := ["internal/bytealg.IndexByteString", "internal/bytealg.IndexString"], unfollowed := true, recurses := true, named := ["unicode/utf8.first", "unicode/utf8.acceptRanges", "internal/bytealg.MaxLen"], apart := false, laid := [("unicode/utf8.acceptRanges", laid_unicode_utf8_acceptRanges), ("unicode/utf8.first", laid_unicode_utf8_first)], narrowed := true }
def SwapKeepsUptoSaid : Prop := swapKeepsUptoRow.holds Tryd.pinned (OpenSpec.upto swapKeepsSpec)

/-- 'quiltworklaw04.SwapSquare', WHERE WHAT IT READS IS OF BULK AT MOST 1048576: true; the input reads as it did. -/
def swapSquareUptoRow : OpenClaim := { program := "ytaojmjfgopbgcaadoor", sum := "bb3330ddd637a2051320ada9813e887b57b04119a0e11c8673845e81acc17815", func := "quiltwork/quiltworklaw04.SwapSquare", spec := "swapSquare", inPlace := ["internal/bytealg.IndexByteString", "internal/bytealg.IndexString"], unfollowed := true, recurses := true, named := ["unicode/utf8.first", "unicode/utf8.acceptRanges", "internal/bytealg.MaxLen"], apart := false, laid := [("unicode/utf8.acceptRanges", laid_unicode_utf8_acceptRanges), ("unicode/utf8.first", laid_unicode_utf8_first)], narrowed := true }
def SwapSquareUptoSaid : Prop := swapSquareUptoRow.holds Tryd.pinned (OpenSpec.upto swapSquareSpec)

/-- 'quiltworklaw04.SwapInverts', WHERE WHAT IT READS IS OF BULK AT MOST 1048576: true; the input reads as it did. -/
def swapInvertsUptoRow : OpenClaim := { program := "ytaojmjfgopbgcaadoor", sum := "bb3330ddd637a2051320ada9813e887b57b04119a0e11c8673845e81acc17815", func := "quiltwork/quiltworklaw04.SwapInverts", spec := "swapInverts", inPlace := ["internal/bytealg.IndexByteString", "internal/bytealg.IndexString"], unfollowed := true, recurses := true, named := ["unicode/utf8.first", "unicode/utf8.acceptRanges", "internal/bytealg.MaxLen"], apart := false, laid := [("unicode/utf8.acceptRanges", laid_unicode_utf8_acceptRanges), ("unicode/utf8.first", laid_unicode_utf8_first)], narrowed := true }
def SwapInvertsUptoSaid : Prop := swapInvertsUptoRow.holds Tryd.pinned (OpenSpec.upto swapInvertsSpec)

end Rows
end Go.Proofs.YtaojmjfgopbgcaaDoor
