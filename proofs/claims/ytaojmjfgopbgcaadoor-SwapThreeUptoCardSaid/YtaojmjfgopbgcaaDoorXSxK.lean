/- OWN WORK: a part of the proof of a law of the seat YtaojmjfgopbgcaaDoor: the rules by which the code is walked. -/
import Derived.Test.YtaojmjfgopbgcaaDoorXSxJ
import Derived.Laws.Cover3
import Derived.Laws.StructEq
import Derived.ChangeKeysEq
set_option linter.unusedVariables false
set_option linter.unusedSimpArgs false
namespace Go.Sx
open Go Go.RowKit Go.Proofs
section
variable {P : Program} {M0 F0 : Nat → Prop} {w0 : World} {n : Nat} {σ : List (Nat × Value)} {Ξ : List Xsn} {Γ : List Asn} {d : Nat} {ty : TypeId} {pos : String} {af : Array Edge}
theorem p_slnil {T : World → Prop} {x y : Operand} {t e t' : TypeId} {A : Option Addr} {l c : Nat} (ht : P.underlying t = some (.slice e)) (hx : ev σ x = some (.slice A l c)) (hy : ev σ y = some (.slice none 0 0)) :
    Pu P n σ T ⟨some d, .binOp .eql t x y t', ty, pos, af, none⟩ (.bool A.isNone) := fun a hs w _ => by
  have hg : (eqGuard .eql t x y (.slice A l c) (.slice none 0 0)).run P w = .ok () w := by simp [eqGuard]
  have h1 : (binOp .eql t (.slice A l c) (.slice none 0 0)).run P w = .ok (.bool A.isNone) w := by
    simp only [binOp]
    simp [run_equal_slice_nil w t e A l c ht]
  simp [execOp, hs.ev hx, hs.ev hy, hg, h1]
theorem p_slnn {T : World → Prop} {x y : Operand} {t e t' : TypeId} {A : Option Addr} {l c : Nat} (ht : P.underlying t = some (.slice e)) (hx : ev σ x = some (.slice A l c)) (hy : ev σ y = some (.slice none 0 0)) :
    Pu P n σ T ⟨some d, .binOp .neq t x y t', ty, pos, af, none⟩ (.bool !A.isNone) := fun a hs w _ => by
  have hg : (eqGuard .neq t x y (.slice A l c) (.slice none 0 0)).run P w = .ok () w := by simp [eqGuard]
  simp [execOp, hs.ev hx, hs.ev hy, hg, run_neq_slice_nil w t e A l c ht]
/-- two rows of two numbers -/
theorem p_aeq2 {T : World → Prop} {x y : Operand} {t e t' : TypeId} {a1 a2 b1 b2 : Int} (ht : P.underlying t = some (.array 2 e)) (he : P.underlying e = some (.int .i64)) (hi' : (P.info? e).isSome = true) (hc : P.cellsOf e = 1) (hag : ∀ w, (isAgg e).run P w = .ok false w) (hm : P.eqGuardType P.depth t = false)
    (hx : ev σ x = some (.agg #[.int .i64 a1, .int .i64 a2])) (hy : ev σ y = some (.agg #[.int .i64 b1, .int .i64 b2])) :
    Pu P n σ T ⟨some d, .binOp .eql t x y t', ty, pos, af, none⟩ (.bool (decide (a1 = b1) && decide (a2 = b2))) := fun a hs w _ => by
  obtain ⟨i, hi⟩ := Option.isSome_iff_exists.1 hi'
  have hg := run_eqGuard_agg (P := P) (w := w) .eql t x y #[.int .i64 a1, .int .i64 a2] #[.int .i64 b1, .int .i64 b2] hm
  have h1 : (Op.equalIn 10000 t (.agg #[.int .i64 a1, .int .i64 a2]) (.agg #[.int .i64 b1, .int .i64 b2])).run P w = .ok (decide (a1 = b1) && decide (a2 = b2)) w := by
    rw [show (10000 : Nat) = 9999 + 1 from rfl, run_equalIn_array w 9999 _ _ ht hi, hc]
    have hq0 : ∀ (g : Nat) (k m : Int), (Op.equalIn (g + 1) e (.int .i64 k) (.int .i64 m)).run P w = .ok (decide (k = m)) w := fun g k m => by
      simp only [Op.equalIn, Sem.run_bind, run_underlying he, Result.andThen_ok, Sem.run_pure]
      by_cases h : k = m <;> simp [h]
    have hq : ∀ (k m : Int), (Op.equalIn 9999 e (.int .i64 k) (.int .i64 m)).run P w = .ok (decide (k = m)) w := fun k m => hq0 9998 k m
    have hp : ∀ (cs : Array Value) (j : Nat) (v : Value), cs[j]? = some v → (part e cs j).run P w = .ok v w := fun cs j v hj => by
      simp [part, hag, hj]
    simp [List.range, List.range.loop, Op.eqItems, hp _ 0 _ (show (#[Value.int .i64 a1, .int .i64 a2])[0]? = some _ from rfl), hp _ 1 _ (show (#[Value.int .i64 a1, .int .i64 a2])[1]? = some _ from rfl), hp _ 0 _ (show (#[Value.int .i64 b1, .int .i64 b2])[0]? = some _ from rfl), hp _ 1 _ (show (#[Value.int .i64 b1, .int .i64 b2])[1]? = some _ from rfl), hq]
    by_cases h : a1 = b1 <;> by_cases h' : a2 = b2 <;> simp [h, h']
  have h2 := run_eql_struct (P := P) (w := w) t #[.int .i64 a1, .int .i64 a2] #[.int .i64 b1, .int .i64 b2]
  simp [execOp, hs.ev hx, hs.ev hy, hg, h1, h2]
end
theorem nil_len {M0 F0 w0 n σ Ξ Γ} {l : List ByteArray} {a : Act} {w : World} {i : Nat} (hi : At (slA none l) i Γ) (h : St M0 F0 w0 n σ Ξ Γ a w) : l = [] ∧ St M0 F0 w0 n σ Ξ Γ a w := by
  obtain ⟨hs, Fs, hh⟩ := h
  refine ⟨?_, hs, Fs, hh⟩
  have h1 := hh.ga _ (List.mem_of_getElem? hi.get)
  match l, h1 with
  | [], _ => rfl
  | x :: l, h1 => obtain ⟨b, o, y, h, _⟩ := h1 0 x rfl; cases h
theorem fill_mono {f g : Nat → Option (Nat × Nat)} (h : ∀ i x, f i = some x → g i = some x) : ∀ (ps : List (Nat × Value)) (cs : Array Value) (r : Array Value), Instr.fill f cs ps = some r → Instr.fill g cs ps = some r
  | [], cs, r, hr => by simpa [Instr.fill] using hr
  | (i, v) :: ps, cs, r, hr => by
    unfold Instr.fill at hr ⊢
    cases hf : f i with
    | none => simp [hf] at hr
    | some x =>
      obtain ⟨o, z⟩ := x
      rw [h i _ hf]
      simp only [hf] at hr
      split at hr
      · cases hr
      · rename_i hc
        simp only
        rw [if_neg hc]
        exact fill_mono h ps _ r hr
theorem SB.array {P : Program} {t e : TypeId} {len sz : Nat} {pl : List (Nat × Nat)} {zs : List Value} {z : Value} (hz : ∀ w, (zeroValue t).run P w = .ok z w) (hc : z.cells = zs.toArray) (hu : P.underlying t = some (.array len e)) (he : ∀ w, (sizeOf e).run P w = .ok sz w)
    (hpl : ∀ i x, pl[i]? = some x → x = (i * sz, sz)) : SB P t pl zs := by
  intro parts cells hf w
  have hf' : Instr.fill (fun i => some (i * sz, sz)) zs.toArray parts.toList = some cells := fill_mono (fun i x hx => by rw [hpl i x hx]) _ _ _ hf
  unfold Instr.build
  simp only [Sem.run_bind, hz, Result.andThen_ok, run_underlying hu, he, hc]
  rw [hf']
  rfl
theorem nilSl {α : Type} [Rp α] {M0 F0 w0 n σ Ξ Γ} {a : Act} {w : World} (h : St M0 F0 w0 n σ Ξ Γ a w) : St M0 F0 w0 n σ Ξ (slA (α := α) none [] :: Γ) a w := by
  obtain ⟨hs, Fs, hh⟩ := h
  refine ⟨hs, Fs, { hh with ga := fun p hp => ?_ }⟩
  rcases List.mem_cons.1 hp with rfl | hp
  · intro j x hj; simp at hj
  · exact hh.ga p hp
theorem cf {P : Program} {Q : Exit → Act → World → Prop} {φ : Prop} {S : Act → World → Prop} {c : Code} (k : φ → TrC P Q S c) : TrC P Q (fun a w => φ ∧ S a w) c := fun a w ⟨h, hS⟩ => k h a w hS
end Go.Sx
