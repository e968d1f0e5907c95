/- OWN WORK: a part of the proof of a law of the seat YtaojmjfgopbgcaaDoor: the rules by which the code is walked. -/
import Derived.Test.YtaojmjfgopbgcaaDoorXSxK
set_option linter.unusedVariables false
namespace Go.Sx
open Go Go.RowKit
section
variable {P : Program} {M0 F0 : Nat → Prop} {w0 : World} {n : Nat} {σ : List (Nat × Value)} {Ξ : List Xsn} {Γ : List Asn} {d : Nat} {ty : TypeId} {pos : String} {af : Array Edge}
variable {ops : Array Oper} {Q : Exit → Act → World → Prop} {S S' : Act → World → Prop} {ef : List Nat} {TL : List (Nat × Nat × Nat × List Value)} {fuel : Nat} {L : List Nat}
theorem nex {X : Sort _} {e : Exit} {S : X → Act → World → Prop} (k : ∀ x, TrN Q e (S x)) : TrN Q e (fun a w => ∃ x, S x a w) := fun a w ⟨x, h⟩ => k x a w h
/-- a guarded operation that is wanted, where the order is drawn -/
theorem doG {i j t : Nat} {dst : Option Nat} {op : Op} {want b : Bool} {o' : Oper} (hi : ops[i]? = some ⟨dst, op, ty, pos, af, some (j, want)⟩) (hj : ops[j]? = some o') (ht : o'.dst = some t) (hb : look σ t = some (.bool b)) (he : (b == want) = true)
    (h : OpR P ⟨dst, op, ty, pos, af, none⟩ (St M0 F0 w0 n σ Ξ Γ) S') (hT : TOk ops ef (i :: L) S' TL) (k : TrA P ops Q ef TL S' fuel (i :: L)) : Does P ops Q ef TL (St M0 F0 w0 n σ Ξ Γ) fuel L i := by
  rintro hr hcl a w ⟨hs, hh⟩
  unfold wpOp
  simp only [hi]
  obtain ⟨hg, hw⟩ := h (fun a' w' => (∀ k, live .any ops (ef.contains ·) ((lst ops.size L).setIfInBounds i true) k = true → TT TL k w') ∧ wpAnyT P .any ops Q (ef.contains ·) (TT TL) fuel ((lst ops.size L).setIfInBounds i true) a' w') Q a w ⟨hs, hh⟩ (fun a' w' hS' => ⟨hT.get a' w' hS', k (hcl.set hr) a' w' hS' (hT.get a' w' hS')⟩)
  have hy : yielded ops a.tmps j = some b := by
    have := hs.val t _ hb
    have h2 : a.tmps[t]? = some (.bool b) := by
      cases h : a.tmps[t]? with
      | none => simp [Array.getD_eq_getD_getElem?, h, undef] at this
      | some v => simpa [Array.getD_eq_getD_getElem?, h] using this
    simp [yielded, hj, ht, h2]
  rw [if_pos (by simpa [Region.wanted, hy] using he)]
  exact .inl hw
theorem p_bne {T : World → Prop} {x y : Operand} {t t' : TypeId} {b c : Bool} (ht : P.underlying t = some .bool) (hx : ev σ x = some (.bool b)) (hy : ev σ y = some (.bool c)) :
    Pu P n σ T ⟨some d, .binOp .neq t x y t', ty, pos, af, none⟩ (.bool !(b == c)) :=
  fun a hs w _ => by
    have hg : (eqGuard .neq t x y (.bool b) (.bool c)).run P w = .ok () w := by simp [eqGuard]
    have h1 := run_neq_bool w t b c ht
    simp only [execOp, hs.ev hx, hs.ev hy, hg, Sem.run_bind, Sem.run_pure, Result.andThen_ok, h1]
/-- an element of a row by value -/
theorem p_idxa {T : World → Prop} {x ix : Operand} {t e : TypeId} {len : Nat} {kd : IntKind} {m : Int} {cs : List Value} {v : Value} (j : Nat) (hj : j < len) (hm : m = (j : Int)) (ht : P.underlying t = some (.array len e)) (he : ∀ w, (sizeOf e).run P w = .ok 1 w) (hag : ∀ w, (isAgg e).run P w = .ok false w)
    (hx : ev σ x = some (.agg cs.toArray)) (hix : ev σ ix = some (.int kd m)) (hv : At v j cs) : Pu P n σ T ⟨some d, .index t x ix, ty, pos, af, none⟩ v := by
  subst hm
  intro a hs w _
  have h0 : (0 : Int) ≤ (j : Int) ∧ (j : Int) < (len : Int) := by omega
  have hv' := hv.get
  have hp : (part e cs.toArray j).run P w = .ok v w := by simp [part, hag, hv']
  simp only [execOp, hs.ev hx, hs.ev hix, Instr.index, Sem.run_bind, asIntOf, Sem.run_pure, Result.andThen_ok, run_underlying ht]
  simp [h0, he, hp]
end
end Go.Sx
