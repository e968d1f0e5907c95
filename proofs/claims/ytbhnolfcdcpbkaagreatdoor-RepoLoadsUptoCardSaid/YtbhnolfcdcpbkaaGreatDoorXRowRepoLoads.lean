/- OWN WORK: a part of the proof of a law of the seat YtbhnolfcdcpbkaaGreatDoor: the law: for every input of bulk at most 1048576 the law returns true, and the input reads as it did. -/
import Derived.Test.YtbhnolfcdcpbkaaGreatDoorXRowMRepoLoads
set_option linter.unusedVariables false
set_option linter.unusedSimpArgs false
namespace Go.Proofs.YtbhnolfcdcpbkaaGreatDoor.X
open Go Go.RowKit Go.Proofs Go.Sx Go.ChangeShapes Go.WideShapes Go.ChangeAt Go.Lib
open YtbhnolfcdcpbkaaGreatDoor
namespace repoLoads
theorem plain (f : FuncId) (fn : Func) (hf : Tryz.pinned.checked.prog.funcNamed "quiltwork/quiltworklaw14.RepoLoads" = some f) (hfn : Tryz.pinned.checked.prog.funcs[f]? = some fn) :
    true = Tryz.pinned.checked.prog.looks [] ∧ ∀ (j : Nat) t, fn.params[j]? = some t → Tryz.pinned.checked.prog.wantsStandIn t = false := by
  obtain rfl : f = 3 := Option.some.inj ((show Tryz.prog.funcNamed "quiltwork/quiltworklaw14.RepoLoads" = some 3 by kernel_rfl).symm.trans hf) |>.symm
  obtain rfl : fn = Tryz.f3 := (Option.some.inj (Tryz.func3.symm.trans hfn)).symm
  refine ⟨by kernel_rfl, fun j t ht => ?_⟩
  rw [Tryz.params3] at ht
  have h2 : t = 22 ∨ t = 23 ∨ t = 27 := by simpa using Array.mem_of_getElem? ht
  rcases h2 with rfl | rfl | rfl
  · exact (show Tryz.prog.wantsStandIn 22 = false by kernel_rfl)
  · exact (show Tryz.prog.wantsStandIn 23 = false by kernel_rfl)
  · exact (show Tryz.prog.wantsStandIn 27 = false by kernel_rfl)
theorem w1 : Rows.repoLoadsUptoRow.wfByText (Rows.OpenSpec.upto Rows.repoLoadsSpec) = true := by kernel_rfl
theorem w2 : false = Rows.repoLoadsUptoRow.goesBy Tryz.pinned.checked.prog := by kernel_rfl
theorem w3 : Tryz.pinned.checked.prog.mainIs = some (true, "4e52a3c5d33d589141bbef71958f66cd77157367eb3c9ff0a5827da30d5c3917".toList) := by kernel_rfl
theorem card : Rows.RepoLoadsUptoCardSaid :=
  Claim7.holds_tied_plain_at .later [] _ _ _ _ said (fun _ h => by cases h) w1 (fun _ h => by cases h) repoLoadsUpto_row_tie rfl ⟨rfl, rfl⟩ w3 rfl plain w2
end repoLoads
end Go.Proofs.YtbhnolfcdcpbkaaGreatDoor.X
