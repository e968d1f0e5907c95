/- OWN WORK: a part of the proof of a law of the seat YtbhnolfcdcpbkaaGreatDoor: the law: for every input of bulk at most 1048576 the law returns true, and the input reads as it did. -/
import Derived.Test.YtbhnolfcdcpbkaaGreatDoorCards
import Derived.Test.YtbhnolfcdcpbkaaGreatDoorTie
import Derived.Test.YtbhnolfcdcpbkaaGreatDoorXGLB
import Derived.Lib.ItoaNum
import Derived.Lib.TrailingZeros
import Derived.ProofKit
import Derived.OpenShut
import Derived.Deep.DeepHandedRow
import Derived.Lib.LaidIn
import Derived.Lib.LaidU8
import Derived.Lib.DecodeN
import Derived.Below
set_option linter.unusedVariables false
set_option linter.unusedSimpArgs false
namespace Go.Proofs.YtbhnolfcdcpbkaaGreatDoor.X
open Go Go.RowKit Go.Proofs Go.Sx Go.ChangeShapes Go.WideShapes Go.ChangeAt Go.Lib
open YtbhnolfcdcpbkaaGreatDoor
theorem laidO : laidOutB Tryz.prog = true := by kernel_rfl
theorem own : ownKnob Tryz.prog.godebug = none := by kernel_rfl
section
variable {H : Type} {enc : TypeId × Value → H} {P : Program}
theorem post_of_below {f : Func} {s : ChangeSpec} {apart fresh handsOn again : Bool} {W W' : World} {args : Array Value} {v : Value} {ds gs : List (DataW H)} {before pa pv : List MemPlace}
    (hW : DataW.Whole enc P f.params.toList s.vars apart W args.toList ds gs before)
    (hres : ∀ (b : Nat) (sp : Nat → Bool) (hd : Bool), DataW.TrodAll enc P W' b sp hd f.resultTypes.toList (v.resultList f.resultTypes.size) (s.fn H (ds ++ gs)).results [])
    (hargs : ∀ sp : Nat → Bool, (∀ p ∈ before, sp p.block = true) → DataW.TrodAll enc P W' 0 sp true f.params.toList args.toList (s.fn H (ds ++ gs)).args pa)
    (hvars : ∀ sp : Nat → Bool, (∀ p ∈ before, sp p.block = true) → DataW.TrodVars enc P W' sp s.vars (s.fn H (ds ++ gs)).vars pv)
    (hps : before = pa ++ pv) (hb : Below W.heap.size W W')
    (hok : ∀ (j : Nat) (t : TypeId) (r : Value), f.resultTypes[j]? = some t → (v.resultList f.resultTypes.size)[j]? = some r → Value.okWide P W' .any 0 t r) :
    s.post enc P f apart fresh handsOn again W args v W' := by
  have hlt : ∀ p ∈ before, p.block < W.heap.size := fun p hp => hW.lt p hp
  have hold : ∀ p ∈ before, (fun b => decide (b < W.heap.size)) p.block = true := fun p hp => by simpa using hlt p hp
  refine ⟨ds, gs, before, [], pa, pv, hW, hres _ _ _, hargs _ hold, hvars _ hold, World.keptBut_mono (fun p hp => ⟨hp, ?_⟩) (hb.frame (· ∈ before)), fun _ => ?_⟩
  · rw [hps, List.mem_append] at hp
    exact Or.inr hp
  · obtain ⟨_, _, _, _, _, hz, hn⟩ := hW
    refine ⟨hok, _, _, ([] ++ pa) ++ pv, ⟨[] ++ pa, pv, trodAll_append (hargs _ (fun _ _ => rfl)) (hres _ _ _), hvars _ (fun _ _ => rfl), rfl, ?_, ?_⟩, ?_⟩
    · intro b off hp
      have hin : MemPlace.cell b off ∈ before := by rw [hps]; simpa using hp
      rw [hb.frozen (hlt _ hin)]
      exact hz b off hin
    · intro ha
      have := hn ha
      rw [hps] at this
      simpa using this
    · intro p hp _
      rw [hps]
      simpa using hp
end
noncomputable def laidWorld (os : Os) : World :=
  let w0 := World.holding Tryz.prog os ⟨#[], #[], []⟩
  let put (h : Array Obj) (g : Nat) (cs : Array Value) : Array Obj := h.modify g fun
    | .cells _ t frozen => .cells cs t frozen
    | o => o
  let h0 := put w0.heap 0 (Lib.pow10Tab.map fun z => Value.int .u64 z).toArray
  let h1 := put h0 1 (Lib.firstTab.map fun z => Value.int .u8 z).toArray
  let h2 := put h1 2 ((List.range 16).flatMap fun i => [Value.int .u8 (Lib.accLo i), Value.int .u8 (Lib.accHi i)]).toArray
  let h4 := put h2 4 (Lib.deBruijn32tab.map fun z => Value.int .u8 (z : Nat)).toArray
  let h5 := put h4 5 (Lib.deBruijn64tab.map fun z => Value.int .u8 (z : Nat)).toArray
  { w0 with heap := h5 }
def bulk (H : Type) : BulkI H := ⟨⟨Rows.uptoBulk, Rows.uptoBulkAll, rfl, fun _ _ => by rw [Rows.uptoBulkAll], fun _ => by rw [Rows.uptoBulk], fun _ _ => by rw [Rows.uptoBulk], fun _ => by rw [Rows.uptoBulk]⟩, fun _ _ => by show Rows.uptoBulk _ = 1; rw [Rows.uptoBulk.eq_def]⟩
theorem bulk_nil (H : Type) : (bulk H).one .nil = 1 := by show Rows.uptoBulk _ = 1; rw [Rows.uptoBulk.eq_def]
def zeroS : Value := .slice none 0 0
def zeroT : Value := .string ⟨#[]⟩
def zeroP : Value := .agg #[.int .i64 0, .string ⟨#[]⟩, .string ⟨#[]⟩, .int .i64 0, .slice none 0 0, .slice none 0 0]
theorem prtys : PrTys Tryz.prog 101 := ⟨⟨_, _, _, _, _, _, _, Tryz.underlying101, by kernel_rfl, by kernel_rfl, Tryz.underlying3, Tryz.underlying9, Tryz.underlying9, Tryz.underlying3, Tryz.underlying73, Tryz.underlying73, Tryz.underlying9, by kernel_rfl⟩⟩
end Go.Proofs.YtbhnolfcdcpbkaaGreatDoor.X
