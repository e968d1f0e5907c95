/- OWN WORK: a part of the proof of a law of the seat YtbhnolfcdcpbkaaGreatDoor: the law: for every input of bulk at most 1048576 the law returns true, and the input reads as it did. -/
import Derived.Test.YtbhnolfcdcpbkaaGreatDoorXRowLH
set_option linter.unusedVariables false
set_option linter.unusedSimpArgs false
set_option maxRecDepth 100000
namespace Go.Proofs.YtbhnolfcdcpbkaaGreatDoor.X
open Go Go.RowKit Go.Proofs Go.Sx Go.ChangeShapes Go.WideShapes Go.ChangeAt Go.Lib
open YtbhnolfcdcpbkaaGreatDoor
/-! What is asked of the program as a whole, one by one. -/
theorem jLaid : laidOutB Tryz.pinned.checked.prog = true := by kernel_rfl
theorem jMaps : mapsRowed Tryz.pinned.checked.prog = true := by kernel_rfl
theorem jStops : (Tryz.pinned.checked.prog.stops == []) = true := by kernel_rfl
theorem jKnobs : (Tryz.pinned.checked.prog.stopKnobs == []) = true := by kernel_rfl
theorem jHeard : Tryz.pinned.checked.prog.stopsHeard = true := by kernel_rfl
theorem jEnter : Tryz.pinned.checked.prog.mayEnter = true := by kernel_rfl
theorem jLifts : (Rows.repoLoadsUptoRow.lifted == Tryz.pinned.checked.prog.liftsFinal) = true := by kernel_rfl
end Go.Proofs.YtbhnolfcdcpbkaaGreatDoor.X
