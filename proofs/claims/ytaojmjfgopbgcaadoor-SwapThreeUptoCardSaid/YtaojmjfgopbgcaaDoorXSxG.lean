/- OWN WORK: a part of the proof of a law of the seat YtaojmjfgopbgcaaDoor: the rules by which the code is walked. -/
import Derived.Test.YtaojmjfgopbgcaaDoorXSxF
set_option linter.unusedVariables false
set_option linter.unusedSimpArgs false
namespace Go.Sx
open Go Go.RowKit
section
variable {P : Program} {M0 F0 : Nat → Prop} {w0 : World} {n : Nat} {σ : List (Nat × Value)} {Ξ : List Xsn} {Γ : List Asn} {d : Nat} {ty : TypeId} {pos : String} {af : Array Edge}
variable {ops : Array Oper} {Q : Exit → Act → World → Prop} {S S' : Act → World → Prop}
/-! ways that meet again -/
theorem wk0 {σ' : List (Nat × Value)} {Γ' : List Asn} (hσ : subσ σ σ') (hg : Sub Γ' Γ) : ∀ a w, St M0 F0 w0 n σ Ξ Γ a w → St M0 F0 w0 n σ' Ξ Γ' a w := by
  rintro a w ⟨hsl, Fs, hh⟩
  exact ⟨hsl.sub hσ, Fs, { hh with ga := fun p hp => hh.ga p (hg.mem p hp) }⟩
theorem nmid {S'' : Act → World → Prop} (hs : ∀ a w, S'' a w → S' a w) : TrN (Exit.then S' Q) .normal S'' := hs
theorem wpList_mid : ∀ (k : Nat) (l : List Oper) (a : Act) (w : World), wpList P ops (Exit.then (wpList P ops Q (l.drop k)) Q) (l.take k) a w → wpList P ops Q l a w
  | 0, l, a, w, h => h
  | k + 1, [], a, w, h => h
  | k + 1, o :: l, a, w, h => by
    simp only [List.take_succ_cons, List.drop_succ_cons] at h
    unfold wpList at h ⊢
    split at h
    · rename_i hw
      rw [if_pos hw]
      rcases h with h | ⟨h1, ⟨a', w', h2⟩⟩
      · refine .inl ?_
        unfold Oper.wp at h ⊢
        generalize (execOp a.eval o).run P w = r at h
        cases r with
        | ok nx w' =>
          cases nx <;> simp only [Oper.upon] at h ⊢
          case value v => exact wpList_mid k l _ _ h
          case skip => exact wpList_mid k l _ _ h
          case defer d => exact wpList_mid k l _ _ h
          case enter f args =>
            refine Calls.mono h fun e w'' he => ?_
            cases e with
            | returned u => exact wpList_mid k l _ _ he
            | panicked c => exact he
            | outgrown => exact he
          case row row args => exact Rows.mono h fun u w'' he => wpList_mid k l _ _ he
        | halt x w' =>
          cases x <;> simp only [Oper.upon] at h ⊢
          case panic u => exact h
      · exact .inr ⟨h1, a', w', h2⟩
    · rename_i hw
      rw [if_neg hw]
      exact wpList_mid k l _ _ h
theorem cutL {l : List Oper} (k : Nat) (h1 : TrL P ops (Exit.then S' Q) S (l.take k)) (h2 : TrL P ops Q S' (l.drop k)) : TrL P ops Q S l := by
  intro a w hS
  refine wpList_mid k l a w ?_
  have h := h1 a w hS
  exact wpList_post (fun a w hs => h2 a w hs) _ a w h
where
  wpList_post {S1 S2 : Act → World → Prop} (hs : ∀ a w, S1 a w → S2 a w) : ∀ (l : List Oper) (a : Act) (w : World), wpList P ops (Exit.then S1 Q) l a w → wpList P ops (Exit.then S2 Q) l a w
  | [], a, w, h => hs a w h
  | o :: l, a, w, h => by
    unfold wpList at h ⊢
    split at h
    · rename_i hw
      rw [if_pos hw]
      rcases h with h | ⟨h1, ⟨a', w', h2⟩⟩
      · refine .inl ?_
        unfold Oper.wp at h ⊢
        generalize (execOp a.eval o).run P w = r at h
        cases r with
        | ok nx w' =>
          cases nx <;> simp only [Oper.upon] at h ⊢
          case value v => exact wpList_post hs l _ _ h
          case skip => exact wpList_post hs l _ _ h
          case defer d => exact wpList_post hs l _ _ h
          case enter f args =>
            refine Calls.mono h fun e w'' he => ?_
            cases e with
            | returned u => exact wpList_post hs l _ _ he
            | panicked c => exact he
            | outgrown => exact he
          case row row args => exact Rows.mono h fun u w'' he => wpList_post hs l _ _ he
        | halt x w' =>
          cases x <;> simp only [Oper.upon] at h ⊢
          case panic u => exact h
      · exact .inr ⟨h1, a', w', h2⟩
    · rename_i hw
      rw [if_neg hw]
      exact wpList_post hs l _ _ h
theorem upσ {t : Nat} {b c : Bool} {v : Value} (ht : look σ t = some (.bool b)) (hb : b = c) : ∀ a, Slots n σ a → Slots n ((t, .bool c) :: σ) a := fun a h => h.sub (by
  subst hb
  intro u v hu
  simp only [look] at hu
  split at hu
  · rename_i e
    have e' : t = u := Nat.eq_of_beq_eq_true e
    subst e'; cases hu; exact ht
  · exact hu)
/-- 'a && b' -/
theorem andG {l : List Oper} (k t d : Nat) {b b2 : Bool} {σ' : List (Nat × Value)} (ht : look σ t = some (.bool b)) (hσ : subσ σ σ')
    (hT : b = true → TrL P ops (Exit.then (St M0 F0 w0 n ((d, .bool b2) :: σ') Ξ Γ) Q) (St M0 F0 w0 n ((t, .bool true) :: σ) Ξ Γ) (l.take k))
    (hF : b = false → TrL P ops (Exit.then (St M0 F0 w0 n ((d, .bool false) :: σ') Ξ Γ) Q) (St M0 F0 w0 n ((t, .bool false) :: σ) Ξ Γ) (l.take k))
    (h2 : TrL P ops Q (St M0 F0 w0 n ((d, .bool (b && b2)) :: σ') Ξ Γ) (l.drop k)) : TrL P ops Q (St M0 F0 w0 n σ Ξ Γ) l := by
  refine cutL k (S' := St M0 F0 w0 n ((d, .bool (b && b2)) :: σ') Ξ Γ) ?_ h2
  rintro a w ⟨hs, hh⟩
  cases b with
  | true => exact hT rfl a w ⟨upσ (v := .bool true) ht rfl a hs, hh⟩
  | false => exact hF rfl a w ⟨upσ (v := .bool true) ht rfl a hs, hh⟩
/-- 'a || b' -/
theorem orG {l : List Oper} (k t d : Nat) {b b2 : Bool} {σ' : List (Nat × Value)} (ht : look σ t = some (.bool b)) (hσ : subσ σ σ')
    (hF : b = false → TrL P ops (Exit.then (St M0 F0 w0 n ((d, .bool b2) :: σ') Ξ Γ) Q) (St M0 F0 w0 n ((t, .bool false) :: σ) Ξ Γ) (l.take k))
    (hT : b = true → TrL P ops (Exit.then (St M0 F0 w0 n ((d, .bool true) :: σ') Ξ Γ) Q) (St M0 F0 w0 n ((t, .bool true) :: σ) Ξ Γ) (l.take k))
    (h2 : TrL P ops Q (St M0 F0 w0 n ((d, .bool (b || b2)) :: σ') Ξ Γ) (l.drop k)) : TrL P ops Q (St M0 F0 w0 n σ Ξ Γ) l := by
  refine cutL k (S' := St M0 F0 w0 n ((d, .bool (b || b2)) :: σ') Ξ Γ) ?_ h2
  rintro a w ⟨hs, hh⟩
  cases b with
  | true => exact hT rfl a w ⟨upσ (v := .bool true) ht rfl a hs, hh⟩
  | false => exact hF rfl a w ⟨upσ (v := .bool true) ht rfl a hs, hh⟩
theorem exI {p q : Bool → Prop} {b : Bool} (h1 : p b) (h2 : q b) : ∃ b, p b ∧ q b := ⟨b, h1, h2⟩
theorem andX {l : List Oper} (k t d : Nat) {b : Bool} {σ' : List (Nat × Value)} (ht : look σ t = some (.bool b)) (hσ : subσ σ σ')
    (hF : b = false → TrL P ops (Exit.then (St M0 F0 w0 n ((d, .bool false) :: σ') Ξ Γ) Q) (St M0 F0 w0 n ((t, .bool false) :: σ) Ξ Γ) (l.take k))
    (h : ∃ b2, (b = true → TrL P ops (Exit.then (St M0 F0 w0 n ((d, .bool b2) :: σ') Ξ Γ) Q) (St M0 F0 w0 n ((t, .bool true) :: σ) Ξ Γ) (l.take k)) ∧
      TrL P ops Q (St M0 F0 w0 n ((d, .bool (b && b2)) :: σ') Ξ Γ) (l.drop k)) : TrL P ops Q (St M0 F0 w0 n σ Ξ Γ) l := by
  obtain ⟨b2, hT, h2⟩ := h
  exact andG k t d ht hσ hT hF h2
theorem orX {l : List Oper} (k t d : Nat) {b : Bool} {σ' : List (Nat × Value)} (ht : look σ t = some (.bool b)) (hσ : subσ σ σ')
    (hT : b = true → TrL P ops (Exit.then (St M0 F0 w0 n ((d, .bool true) :: σ') Ξ Γ) Q) (St M0 F0 w0 n ((t, .bool true) :: σ) Ξ Γ) (l.take k))
    (h : ∃ b2, (b = false → TrL P ops (Exit.then (St M0 F0 w0 n ((d, .bool b2) :: σ') Ξ Γ) Q) (St M0 F0 w0 n ((t, .bool false) :: σ) Ξ Γ) (l.take k)) ∧
      TrL P ops Q (St M0 F0 w0 n ((d, .bool (b || b2)) :: σ') Ξ Γ) (l.drop k)) : TrL P ops Q (St M0 F0 w0 n σ Ξ Γ) l := by
  obtain ⟨b2, hF, h2⟩ := h
  exact orG k t d ht hσ hF hT h2
/-- two ways through a piece of code that meet again -/
theorem cutC {c : Code} (h1 : TrC P (Exit.then S' Q) S c) (h2 : TrN Q .normal S') : TrC P Q S c := fun a w h => wp_mono (h1 a w h) (fun e a w hq => by cases e <;> first | exact hq | exact h2 a w hq)

/-- a guard that was itself passed over -/
theorem yielded_undef {j t : Nat} {o' : Oper} {a : Act} (hj : ops[j]? = some o') (ht : o'.dst = some t) (hb : look σ t = some undef) (hs : Slots n σ a) : yielded ops a.tmps j = none := by
  have := hs.val t _ hb
  cases h : a.tmps[t]? with
  | none => simp [yielded, hj, ht, h]
  | some v =>
    have hv : v = undef := by simpa [Array.getD_eq_getD_getElem?, h] using this
    subst hv
    simp [yielded, hj, ht, h, undef]
theorem lskipu {d' j : Nat} {want : Bool} {op : Op} {l : List Oper} {t : Nat} {o' : Oper} (hj : ops[j]? = some o') (ht : o'.dst = some t) (hb : look σ t = some undef) (hd : Nat.blt d' n = true)
    (k : TrL P ops Q (St M0 F0 w0 n ((d', undef) :: σ) Ξ Γ) l) : TrL P ops Q (St M0 F0 w0 n σ Ξ Γ) (⟨some d', op, ty, pos, af, some (j, want)⟩ :: l) := by
  intro a w hS
  obtain ⟨hs, hh⟩ := hS
  have hy := yielded_undef hj ht hb hs
  unfold wpList
  rw [if_neg (by simp [Region.wanted, hy])]
  exact k _ _ ⟨hs.put hd, hh⟩

/-! more on strings, bytes and bools -/
def byteAt (s : ByteArray) (k : Nat) : Nat := (s.data.toList.getD k 0).toNat
theorem p_idxs {T : World → Prop} {x ix : Operand} {t : TypeId} {s : ByteArray} {kd : IntKind} {m : Int} (j : Nat) (hj : j < s.size) (hm : m = (j : Int)) (ht : P.underlying t = some .string) (hx : ev σ x = some (.string s)) (hix : ev σ ix = some (.int kd m)) :
    Pu P n σ T ⟨some d, .index t x ix, ty, pos, af, none⟩ (.int .u8 (byteAt s j : Int)) := by
  subst hm
  intro a hs w _
  have h1 : s[j]? = some s[j] := by simp [hj]
  have h2 : byteAt s j = (s[j]).toNat := by
    unfold byteAt
    rw [List.getD_eq_getElem?_getD, List.getElem?_eq_getElem (by simpa using hj)]
    rfl
  simp [execOp, hs.ev hx, hs.ev hix, Instr.index, run_underlying ht, asIntOf, h1, h2]
theorem p_slt {T : World → Prop} {x y : Operand} {t t' : TypeId} {s u : ByteArray} (hx : ev σ x = some (.string s)) (hy : ev σ y = some (.string u)) :
    Pu P n σ T ⟨some d, .binOp .lss t x y t', ty, pos, af, none⟩ (.bool (Op.bytesLess s.toList u.toList)) :=
  fun a hs w _ => by simp [execOp, hs.ev hx, hs.ev hy, eqGuard_at_string, binOp, Op.stringOp]
theorem p_sgt {T : World → Prop} {x y : Operand} {t t' : TypeId} {s u : ByteArray} (hx : ev σ x = some (.string s)) (hy : ev σ y = some (.string u)) :
    Pu P n σ T ⟨some d, .binOp .gtr t x y t', ty, pos, af, none⟩ (.bool !(Op.bytesLess s.toList u.toList || decide (s = u))) :=
  fun a hs w _ => by simp [execOp, hs.ev hx, hs.ev hy, eqGuard_at_string, binOp, Op.stringOp, str_beq]
theorem p_beq {T : World → Prop} {x y : Operand} {t t' : TypeId} {b c : Bool} (ht : P.underlying t = some .bool) (hx : ev σ x = some (.bool b)) (hy : ev σ y = some (.bool c)) :
    Pu P n σ T ⟨some d, .binOp .eql t x y t', ty, pos, af, none⟩ (.bool (b == c)) :=
  fun a hs w _ => by
    simp only [execOp, hs.ev hx, hs.ev hy, eqGuard_at_bool, Sem.run_bind, Sem.run_pure, Result.andThen_ok, run_eql_bool w t b c ht]
theorem p_nilck {T : World → Prop} {x : Operand} {a' : Addr} (hx : ev σ x = some (.pointer (some a'))) : Pu P n σ T ⟨some d, .nilCheck x, ty, pos, af, none⟩ (.pointer (some a')) :=
  fun a hs w _ => by simp [execOp, hs.ev hx]
end
end Go.Sx
