/- OWN WORK: a part of the proof of a law of the seat YtaojmjfgopbgcaaDoor: the rules by which the code is walked. -/
import Derived.Test.YtaojmjfgopbgcaaDoorXSxE
set_option linter.unusedVariables false
set_option linter.unusedSimpArgs false
namespace Go.Sx
open Go Go.RowKit
/-- these cells hold these values, for good -/
def isA (b o : Nat) (vs : List Value) : Asn where
  p M w := ¬ M b ∧ b < w.heap.size ∧ Is b o vs w
  st := by
    intro M M' w w' ⟨h1, h2, h3⟩ hb hm hs
    refine ⟨fun h => h1 (hm b h2 h), Nat.lt_of_lt_of_le h2 hs, fun j v hj => ?_⟩
    rw [World.cell?_of_block (w := w) (hb b h2 h1)]
    exact h3 j v hj
section
variable {P : Program} {M0 F0 : Nat → Prop} {w0 : World} {n : Nat} {σ : List (Nat × Value)} {Ξ : List Xsn} {Γ : List Asn} {d : Nat} {ty : TypeId} {pos : String} {af : Array Edge}
variable {ops : Array Oper} {Q : Exit → Act → World → Prop}
/-- element j is looked up -/
theorem el {α : Type} [Rp α] {A : Option Addr} {l : List α} {i : Nat} {x : α} {a : Act} {w : World} (hi : At (slA A l) i Γ) (j : Nat) (hj : l[j]? = some x) (hS : St M0 F0 w0 n σ Ξ Γ a w) :
    ∃ b o y, A = some ⟨b, o, none⟩ ∧ St M0 F0 w0 n σ Ξ (isA b (o + j * Rp.size α) (Rp.enc x y) :: (Rp.asn x y ++ Γ)) a w := by
  obtain ⟨hs, Fs, hh⟩ := hS
  obtain ⟨b, o, y, hA, h1, h2, h3, h4⟩ := hh.ga _ (List.mem_of_getElem? hi.get) j x hj
  refine ⟨b, o, y, hA, hs, Fs, { hh with ga := fun p hp => ?_ }⟩
  rcases List.mem_cons.1 hp with rfl | hp
  · exact ⟨h1, h2, h3⟩
  rcases List.mem_append.1 hp with h | h
  · exact h4 p h
  · exact hh.ga p h
theorem elC {α : Type} [Rp α] {A : Option Addr} {l : List α} {i : Nat} {x : α} {c : Code} (hi : At (slA A l) i Γ) (j : Nat) (hj : l[j]? = some x)
    (k : ∀ b o y, A = some ⟨b, o, none⟩ → TrC P Q (St M0 F0 w0 n σ Ξ (isA b (o + j * Rp.size α) (Rp.enc x y) :: (Rp.asn x y ++ Γ))) c) : TrC P Q (St M0 F0 w0 n σ Ξ Γ) c := fun a w hS => by
  obtain ⟨b, o, y, hA, h⟩ := el hi j hj hS
  exact k b o y hA a w h
theorem elL {α : Type} [Rp α] {A : Option Addr} {l : List α} {i : Nat} {x : α} {r : List Oper} (hi : At (slA A l) i Γ) (j : Nat) (hj : l[j]? = some x)
    (k : ∀ b o y, A = some ⟨b, o, none⟩ → TrL P ops Q (St M0 F0 w0 n σ Ξ (isA b (o + j * Rp.size α) (Rp.enc x y) :: (Rp.asn x y ++ Γ))) r) : TrL P ops Q (St M0 F0 w0 n σ Ξ Γ) r := fun a w hS => by
  obtain ⟨b, o, y, hA, h⟩ := el hi j hj hS
  exact k b o y hA a w h
/-- the place of an element -/
theorem p_ia {T : World → Prop} {x ix : Operand} {t e : TypeId} {A : Option Addr} {b o len c sz : Nat} {kd : IntKind} {m : Int} (j : Nat) (hA : A = some ⟨b, o, none⟩) (hj : j < len) (hm : m = (j : Int)) (ht : P.underlying t = some (.slice e)) (he : ∀ w, (sizeOf e).run P w = .ok sz w)
    (hx : ev σ x = some (.slice A len c)) (hix : ev σ ix = some (.int kd m)) : Pu P n σ T ⟨some d, .indexAddr t x ix, ty, pos, af, none⟩ (.pointer (some ⟨b, o + j * sz, none⟩)) := by
  subst hm
  subst hA
  intro a hs w _
  have h0 : (0 : Int) ≤ (j : Int) ∧ (j : Int) < (len : Int) := by omega
  simp [execOp, hs.ev hx, hs.ev hix, Instr.indexAt, run_underlying ht, asIntOf, he, hj, Addr.add_lit]
theorem isIn {b q q' i k z : Nat} {cs r : List Value} (hi : At (isA b q cs) i Γ) (hq : q' = q + k) (hv : Cut k z cs r) : ∀ Fs w, Hp M0 F0 w0 Ξ Γ Fs w → Is b q' r w := by
  intro Fs w hh j v hj
  subst hq
  obtain ⟨rfl, hle⟩ := hv.eq
  have hjk : j < z := by have := (List.getElem?_eq_some_iff.1 hj).1; simp at this; omega
  have := (hh.ga _ (List.mem_of_getElem? hi.get)).2.2 (k + j) v (by rw [List.getElem?_take_of_lt hjk, List.getElem?_drop] at hj; exact hj)
  rw [Nat.add_assoc]; exact this
theorem isInS {b q q' i k z : Nat} {cs r : List Value} (hi : At (isA b q cs) i Γ) (hq : q' = q + k) (hv : Cut k z cs r) : ∀ a w, St M0 F0 w0 n σ Ξ Γ a w → Is b q' r w := fun a w ⟨_, Fs, hh⟩ => isIn hi hq hv Fs w hh
/-- one cell of what is looked up -/
theorem o_ldi {x : Operand} {t : TypeId} {i b q q' : Nat} {cs : List Value} {v : Value} (hag : ∀ w, (isAgg t).run P w = .ok false w) (hx : ev σ x = some (.pointer (some ⟨b, q', none⟩))) (hi : At (isA b q cs) i Γ) (k : Nat) (hq : q' = q + k) (hv : Cut k 1 cs [v]) (hd : Nat.blt d n = true) :
    OpR P ⟨some d, .load t x, ty, pos, af, none⟩ (St M0 F0 w0 n σ Ξ Γ) (St M0 F0 w0 n ((d, v) :: σ) Ξ Γ) := opT (p_ld hag hx) (isIn hi hq hv) hd
/-- a whole struct of what is looked up -/
theorem o_ldj {x : Operand} {t : TypeId} {i b q q' z : Nat} {cs r : List Value} (hag : ∀ w, (isAgg t).run P w = .ok true w) (hsz : ∀ w, (sizeOf t).run P w = .ok z w) (hx : ev σ x = some (.pointer (some ⟨b, q', none⟩))) (hi : At (isA b q cs) i Γ) (k : Nat) (hq : q' = q + k) (hv : Cut k z cs r) (hd : Nat.blt d n = true) :
    OpR P ⟨some d, .load t x, ty, pos, af, none⟩ (St M0 F0 w0 n σ Ξ Γ) (St M0 F0 w0 n ((d, .agg r.toArray) :: σ) Ξ Γ) := opT (p_lda hag hsz hx hv.length) (isIn hi hq hv) hd
/-- a function value -/
theorem p_mkf {T : World → Prop} {g : FuncId} {cap : List Operand} {cs : List Value} (hc : evL σ cap = some cs) : Pu P n σ T ⟨some d, .makeFunc (.func g) #[] cap.toArray, ty, pos, af, none⟩ (.func (.func g) #[] cs.toArray) := by
  intro a hs w _
  have hm := hs.evL hc
  have : cap.toArray.map a.eval = cs.toArray := by simp [hm]
  simp [execOp, Instr.makeFunc, this]
end
end Go.Sx
