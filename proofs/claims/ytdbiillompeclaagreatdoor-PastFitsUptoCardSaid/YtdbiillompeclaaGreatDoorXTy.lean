/- OWN WORK: a part of the proof of a law of the seat YtdbiillompeclaaGreatDoor: what the functions compute. -/
import Derived.Test.YtdbiillompeclaaGreatDoorXSx1
set_option linter.unusedVariables false
namespace Go.Sx
open Go
structure Prim where
  kind : Int
  name : ByteArray
  to : ByteArray
  pos : Int
  old : List ByteArray
  new : List ByteArray
  deriving DecidableEq
instance : Rp Prim where
  Lay := (Option Addr × Nat) × (Option Addr × Nat)
  size := 6
  enc p y := [.int .i64 p.kind, .string p.name, .string p.to, .int .i64 p.pos, .slice y.1.1 p.old.length y.1.2, .slice y.2.1 p.new.length y.2.2]
  len _ _ := rfl
  one _ _ v hv := by
    simp only [List.mem_cons, List.mem_nil_iff, or_false] at hv
    rcases hv with rfl | rfl | rfl | rfl | rfl | rfl <;> rfl
  asn p y := [slA y.1.1 p.old, slA y.2.1 p.new]
end Go.Sx
