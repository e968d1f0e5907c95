/- OWN WORK: a part of the proof of a law of the seat YtdbiillompeclaaGreatDoor: contracts. -/
import Derived.Test.YtdbiillompeclaaGreatDoorXGA
import Derived.Laws.StructEq
import Derived.Scope
import Derived.Deep.LoopGhost
import Derived.Test.YtdbiillompeclaaGreatDoorXGB
import Derived.Test.YtdbiillompeclaaGreatDoorProg
section
set_option linter.unusedVariables false
set_option linter.unusedSimpArgs false
namespace Go.Sx
open Go Go.RowKit
/-! A scope, out of which nobody jumps. -/
theorem stepR_scope {P : Program} {b : Frame} {a : Act} {k : List Item} {cs : List Frame} {w : World} {c : Code} : step P (lone (b.atR a (.code (.scope c) :: k)) cs w) = .next (lone (b.atR a (.code c :: .inScope c :: k)) cs w) :=
  step_lone_go (by simp [stepG, stepG.exec, Frame.atR])
theorem stepR_inScope {P : Program} {b : Frame} {a : Act} {k : List Item} {cs : List Frame} {w : World} {c : Code} : step P (lone (b.atR a (.inScope c :: k)) cs w) = .next (lone (b.atR a k) cs w) :=
  step_lone_go (by simp [stepG, stepG.exec, Frame.atR])
theorem wpIn_scope {F : Fence} {n : Nat} {P : Program} {Q : Exit → Act → World → Prop} {a : Act} {w : World} {c : Code} (h : c.wpIn F n P (Exit.noGoto Q) a w) : (Code.scope c).wpIn F n P Q a w := by
  intro b k cs hro hb hr
  have h0 : (lone (b.atR a (.code (.scope c) :: k)) cs w).fenced P F := fenced_calm hb hr rfl
  obtain ⟨e, a₁, w₁, hq, harr⟩ := h b (.inScope c :: k) cs hro hb hr
  cases e with
  | normal => exact ⟨.normal, a₁, w₁, hq, .head h0 stepR_scope (StepsIn.trans harr (.one (fenced_calm hb hr rfl) stepR_inScope))⟩
  | exit id => exact ⟨.exit id, a₁, w₁, hq, .of_steps (.one h0 stepR_scope) ⟨fun k' hk => harr.1 k' (by simpa [exitTo] using hk), fun hr' hk => harr.2 hr' (by simpa [exitTo] using hk)⟩⟩
  | goto l => exact hq.elim
  | ret => exact ⟨_, a₁, w₁, hq, .of_steps (.one h0 stepR_scope) harr⟩
  | panic ch => exact ⟨_, a₁, w₁, hq, .of_steps (.one h0 stepR_scope) harr⟩
  | outgrown => exact ⟨_, a₁, w₁, hq, .of_steps (.one h0 stepR_scope) harr⟩
theorem cscope {ro : Option Nat} {P : Program} {Q : Exit → Act → World → Prop} {S : Act → World → Prop} {c : Code} (k : TrC ro P (Exit.noGoto Q) S c) : TrC ro P Q S (.scope c) := fun a w h => wpIn_scope (k a w h)
theorem nscope {Q : Exit → Act → World → Prop} {S : Act → World → Prop} (k : TrN Q .normal S) : TrN (Exit.noGoto Q) .normal S := k
theorem xscope {Q : Exit → Act → World → Prop} {S : Act → World → Prop} {id : Nat} (k : TrN Q (.exit id) S) : TrN (Exit.noGoto Q) (.exit id) S := k
/-! A table: a row of one's own of slices whose arrays are one's own, too. -/
structure Hdr where
  A : Option Addr
  n : Nat
  c : Nat
instance instRpHdr : Rp Hdr where
  Lay := Unit
  size := 1
  enc h _ := [.slice h.A h.n h.c]
  len _ _ := rfl
  one _ _ v hv := by
    simp only [List.mem_cons, List.mem_nil_iff, or_false] at hv
    subst hv; rfl
  asn _ _ := []
theorem row_set {α : Type} [Rp α] {P : Program} {e : TypeId} {g c : Nat} {l : List α} {F M : Nat → Prop} {w : World} (h : (row e (some ⟨g, 0, none⟩) c l).p F M w) (hM : M g) {j : Nat} (hj : j < l.length) (z : α) (yz : Rp.Lay α) (ha : ∀ p ∈ Rp.asn z yz, p.p M w) :
    ∃ w' : World, (storeCells ⟨g, 0 + j * Rp.size α, none⟩ (Rp.enc z yz)).run P w = .ok () w' ∧ Upd (fun b => b = g) w w' ∧ (row e (some ⟨g, 0, none⟩) c (l.set j z)).p F M w' := by
  obtain ⟨xs, ho, hFb, hr⟩ := h
  have hxl := hr.length
  rcases ho.2 with ⟨h0, _⟩ | ⟨g', cap, cur, hv, hbase, hb, hle, hmax, hcs, hxs⟩
  · cases h0
  · cases hv
    have hjs : j * Rp.size α + Rp.size α ≤ l.length * Rp.size α := by
      have : (j + 1) * Rp.size α ≤ l.length * Rp.size α := Nat.mul_le_mul_right _ hj
      rw [Nat.add_mul, Nat.one_mul] at this
      exact this
    have hcap : l.length * Rp.size α ≤ c * Rp.size α := Nat.mul_le_mul_right _ hle
    have hlen := Rp.len z yz
    have hst := run_storeCells_at P g (0 + j * Rp.size α) e (Rp.enc z yz) 0 cur w hb (by rw [hlen]; omega) (fun v hv => Rp.one z yz v hv)
    simp only [Nat.zero_add, Nat.add_zero, hlen] at hst
    refine ⟨w.setRow g (cur.toList.take (j * Rp.size α) ++ Rp.enc z yz ++ cur.toList.drop (j * Rp.size α + Rp.size α)).toArray, ?_, ⟨rfl, rfl, rfl, by simp, fun b _ hn => setRow_other w g b _ (fun e' => hn e')⟩, ?_⟩
    · rw [Nat.zero_add]; exact hst
    · have hrow := hr.set j hj z yz ha
      refine ⟨_, ⟨?_, .inr ⟨g, c, (cur.toList.take (j * Rp.size α) ++ Rp.enc z yz ++ cur.toList.drop (j * Rp.size α + Rp.size α)).toArray, by rw [List.length_set], hbase, setRow_heap w g _ _ e _ hb, by rw [List.length_set]; exact hle, hmax, ?_, ?_⟩⟩, fun b => by rw [List.length_set]; exact hFb b, hrow.st (fun b hb' hn => setRow_other w g b _ (fun e' => hn (by rw [e']; exact hM))) (fun b _ hb' => hb') (by simp)⟩
      · exact hrow.length
      · simp [hlen]; omega
      · rw [List.length_set]
        have hcl : cur.toList.length = cur.size := by simp
        have h1 := take_put (l := cur.toList) (vs := Rp.enc z yz) (a := j * Rp.size α) (N := l.length * Rp.size α) (by rw [hlen]; exact hjs) (by rw [hcl, hcs]; exact hcap)
        rw [hlen, hxs] at h1
        exact h1
theorem row_at {α : Type} [Rp α] {e : TypeId} {g c : Nat} {l : List α} {F M : Nat → Prop} {w : World} (h : (row e (some ⟨g, 0, none⟩) c l).p F M w) {j : Nat} {x : α} (hj : l[j]? = some x) :
    ∃ y : Rp.Lay α, Is g (0 + j * Rp.size α) (Rp.enc x y) w ∧ ∀ p ∈ Rp.asn x y, p.p M w := by
  obtain ⟨xs, ho, _, hr⟩ := h
  obtain ⟨y, h1, h2⟩ := hr.at j x hj
  refine ⟨y, fun q v hq => ?_, h2⟩
  rcases ho.2 with ⟨h0, _⟩ | ⟨g', cap, cur, hv, _, hb, _, _, hsz, hxs⟩
  · cases h0
  · cases hv
    have h3 := h1 q v hq
    rw [← hxs] at h3
    have hlt := (List.getElem?_eq_some_iff.1 h3).1
    rw [List.length_take] at hlt
    rw [List.getElem?_take_of_lt (by omega)] at h3
    simp only [World.cell?, hb, Option.isSome_none, Bool.false_eq_true, if_false]
    rw [Nat.zero_add, ← Array.getElem?_toList]
    exact h3
theorem row_own {α : Type} [Rp α] {e : TypeId} {g c : Nat} {l : List α} {F M : Nat → Prop} {w : World} (h : (row e (some ⟨g, 0, none⟩) c l).p F M w) : (∀ b, F b ↔ b = g) ∧ g < w.heap.size := by
  obtain ⟨xs, ho, hF, hr⟩ := h
  refine ⟨fun b => by rw [hF b]; exact ⟨fun h => (Option.some.inj h).symm, fun h => by rw [h]; rfl⟩, ?_⟩
  rcases ho.2 with ⟨h0, _⟩ | ⟨g', cap, cur, hv, _, hb, _, _, hsz, hxs⟩
  · cases h0
  · cases hv; exact (Array.getElem?_eq_some_iff.1 hb).1
def tab {β : Type} [Rp β] (e1 e2 : TypeId) (g c : Nat) (hs : List Hdr) (m : Nat) (gs : List Nat) (ls : List (List β)) : Xsn where
  p F M w := (row (α := Hdr) e1 (some ⟨g, 0, none⟩) c hs).p (fun b => b = g) M w ∧ (g :: gs).Nodup ∧ gs.length = ls.length ∧
    (∀ (j b : Nat) (l : List β), gs[j]? = some b → ls[j]? = some l → (row (α := β) e2 (some ⟨b, 0, none⟩) m l).p (fun x => x = b) M w) ∧ ∀ x, F x ↔ x ∈ g :: gs
  st := by
    rintro F M M' w w' ⟨h1, h2, h3, h4, h5⟩ hb hm hs'
    refine ⟨(row _ _ _ _).st _ M M' w w' h1 (fun b hlt hF => hb b hlt (hF.imp (fun e => (h5 b).2 (by rw [e]; simp)) id)) hm hs', h2, h3, fun j b l hj hl => ?_, h5⟩
    exact (row _ _ _ _).st _ M M' w w' (h4 j b l hj hl) (fun x hlt hF => hb x hlt (hF.imp (fun e => (h5 x).2 (by rw [e]; exact List.mem_cons_of_mem _ (List.mem_of_getElem? hj))) id)) hm hs'

section
variable {ro : Option Nat} {P : Program} {M0 F0 : Nat → Prop} {w0 : World} {n : Nm} {σ : List (Nat × Value)} {Ξ : List Xsn} {Γ : List Asn} {d : Nat} {ty : TypeId} {pos : String} {af : Array Edge}
variable {ops : Array Oper} {Q : Exit → Act → World → Prop} {S S' : Act → World → Prop} {β : Type} [Rp β]

theorem p_mul {T : World → Prop} {x y : Operand} {t t' : TypeId} {k b : Int} (hx : ev σ x = some (.int .i64 k)) (hy : ev σ y = some (.int .i64 b)) (hb : -9223372036854775808 ≤ k * b ∧ k * b < 9223372036854775808) : Pu P n σ T ⟨some d, .binOp .mul t x y t', ty, pos, af, none⟩ (.int .i64 (k * b)) :=
  fun a hs w _ => by
    have := IntWalk.i64_in (k * b) (by omega)
    simp [execOp, hs.ev hx, hs.ev hy, eqGuard_mul, binOp_mul, Op.intArith, this]
theorem clabel {l : Nat} (k : TrN Q .normal S) : TrC ro P Q S (.label l) := fun a w h => wpIn_label (k a w h)
theorem o_pT {o : Op} {v : Value} {T : World → Prop} (h : Pu P n σ T ⟨some d, o, ty, pos, af, none⟩ v) (hT : ∀ a w, St M0 F0 w0 n σ Ξ Γ a w → T w) (hd : Nat.blt d n.n = true) : OpR P ⟨some d, o, ty, pos, af, none⟩ (St M0 F0 w0 n σ Ξ Γ) (St M0 F0 w0 n ((d, v) :: σ) Ξ Γ) :=
  OpR.of_run rfl fun a w hS => ⟨v, w, h a hS.1 w (hT a w hS), hS.1.put hd, hS.2⟩
theorem isRowI {e : TypeId} {g c i j : Nat} {l : List Int} {x : Int} (hi : At (row (α := Int) e (some ⟨g, 0, none⟩) c l) i Ξ) (hj : l[j]? = some x) : ∀ a w, St M0 F0 w0 n σ Ξ Γ a w → Is g (0 + j * Rp.size Int) [.int .i64 x] w := by
  rintro a w ⟨_, Fs, hh⟩
  obtain ⟨_, h1, _⟩ := rowAt hi hj hh
  exact h1
theorem rowEq {α : Type} [Rp α] {e : TypeId} {A : Option Addr} {c i : Nat} {l l' : List α} {Ξ' : List Xsn} {a : Act} {w : World} (hi : At (row e A c l) i Ξ) (he : l = l') (hs : SetAt (row e A c l') i Ξ Ξ') (h : St M0 F0 w0 n σ Ξ Γ a w) : St M0 F0 w0 n σ Ξ' Γ a w := by
  subst he
  obtain ⟨rfl, hlt⟩ := hs.eq
  have : Ξ.set i (row e A c l) = Ξ := by
    refine List.ext_getElem? fun j => ?_
    rw [List.getElem?_set]
    split
    · rename_i e1; subst e1; rw [hi.get]
    · rfl
  rw [this]; exact h
theorem o_strowE {α : Type} [Rp α] {dst : Option Nat} {x y : Operand} {t e : TypeId} {g c : Nat} {l l' : List α} {i j : Nat} {z : α} {yz : Rp.Lay α} {v : Value} {Ξ' : List Xsn} (hdst : dst = none) (hsz : ∀ w, (sizeOf t).run P w = .ok (Rp.size α) w) (hx : ev σ x = some (.pointer (some ⟨g, 0 + j * Rp.size α, none⟩))) (hy : ev σ y = some v)
    (hvc : v.cells = (Rp.enc z yz).toArray) (hi : At (row e (some ⟨g, 0, none⟩) c l) i Ξ) (hj : j < l.length) (he : l.set j z = l') (hs' : SetAt (row e (some ⟨g, 0, none⟩) c l') i Ξ Ξ') (hg : Sub (Rp.asn z yz) Γ) :
    OpR P ⟨dst, .store t x y, ty, pos, af, none⟩ (St M0 F0 w0 n σ Ξ Γ) (St M0 F0 w0 n σ Ξ' Γ) := by
  subst he; exact o_strow hdst hsz hx hy hvc hi hj hs' hg
theorem tab0 {e1 e2 : TypeId} {g c m i : Nat} {hs hs2 : List Hdr} {ls : List (List β)} {Ξ' : List Xsn} {a : Act} {w : World} (hi : At (row (α := Hdr) e1 (some ⟨g, 0, none⟩) c hs) i Ξ) (he1 : hs = hs2) (he2 : [] = ls) (hs' : SetAt (tab (β := β) e1 e2 g c hs2 m [] ls) i Ξ Ξ') (h : St M0 F0 w0 n σ Ξ Γ a w) : St M0 F0 w0 n σ Ξ' Γ a w := by
  subst he1
  subst he2
  obtain ⟨hsl, Fs, hh⟩ := h
  obtain ⟨rfl, _⟩ := hs'.eq
  refine ⟨hsl, Fs, hh.swapX hi.get fun F hF hp => ?_⟩
  have ho := (row_own hp).1
  have e : F = fun b => b = g := funext fun b => propext (ho b)
  subst e
  exact ⟨hp, by simp, rfl, fun j b l hj => by simp at hj, fun x => by simp⟩
theorem isTabH {e1 e2 : TypeId} {g c m i j : Nat} {hs : List Hdr} {gs : List Nat} {ls : List (List β)} {h : Hdr} (hi : At (tab e1 e2 g c hs m gs ls) i Ξ) (hj : hs[j]? = some h) : ∀ a w, St M0 F0 w0 n σ Ξ Γ a w → Is g (0 + j * Rp.size Hdr) [.slice h.A h.n h.c] w := by
  rintro a w ⟨_, Fs, hh⟩
  obtain ⟨F, hF, hp⟩ := hh.ex.at hi.get
  obtain ⟨_, h1, _⟩ := row_at hp.1 hj
  exact h1
theorem isTab {e1 e2 : TypeId} {g c m i j k b : Nat} {hs : List Hdr} {gs : List Nat} {ls : List (List β)} {l : List β} {x : β} (hi : At (tab e1 e2 g c hs m gs ls) i Ξ) (hb : gs[j]? = some b) (hl : ls[j]? = some l) (hk : l[k]? = some x) : ∀ a w, St M0 F0 w0 n σ Ξ Γ a w → ∃ y : Rp.Lay β, Is b (0 + k * Rp.size β) (Rp.enc x y) w := by
  rintro a w ⟨_, Fs, hh⟩
  obtain ⟨F, hF, hp⟩ := hh.ex.at hi.get
  obtain ⟨y, h1, _⟩ := row_at (hp.2.2.2.1 j b l hb hl) hk
  exact ⟨y, h1⟩
theorem isTabI {e1 e2 : TypeId} {g c m i j k b : Nat} {hs : List Hdr} {gs : List Nat} {ls : List (List Int)} {l : List Int} {x : Int} (hi : At (tab e1 e2 g c hs m gs ls) i Ξ) (hb : gs[j]? = some b) (hl : ls[j]? = some l) (hk : l[k]? = some x) : ∀ a w, St M0 F0 w0 n σ Ξ Γ a w → Is b (0 + k * Rp.size Int) [.int .i64 x] w := fun a w h => by
  obtain ⟨_, h1⟩ := isTab hi hb hl hk a w h
  exact h1
theorem o_tst {dst : Option Nat} {x y : Operand} {t e1 e2 : TypeId} {g c m i j k b : Nat} {hs : List Hdr} {gs : List Nat} {ls : List (List β)} {l : List β} {z : β} {yz : Rp.Lay β} {v : Value} {ls' : List (List β)} {Ξ' : List Xsn} (hdst : dst = none) (hsz : ∀ w, (sizeOf t).run P w = .ok (Rp.size β) w) (hx : ev σ x = some (.pointer (some ⟨b, 0 + k * Rp.size β, none⟩))) (hy : ev σ y = some v)
    (hvc : v.cells = (Rp.enc z yz).toArray) (hi : At (tab e1 e2 g c hs m gs ls) i Ξ) (hb : gs[j]? = some b) (hl : ls[j]? = some l) (hk : k < l.length) (he : ls.set j (l.set k z) = ls') (hs' : SetAt (tab e1 e2 g c hs m gs ls') i Ξ Ξ') (hg : Sub (Rp.asn z yz) Γ) :
    OpR P ⟨dst, .store t x y, ty, pos, af, none⟩ (St M0 F0 w0 n σ Ξ Γ) (St M0 F0 w0 n σ Ξ' Γ) := by
  subst hdst
  subst he
  refine OpR.of_skip rfl fun a w ⟨hsl, Fs, hh⟩ => ?_
  obtain ⟨rfl, _⟩ := hs'.eq
  obtain ⟨F, hF, hr, hnd, hlen, hrow, hFx⟩ := hh.ex.at hi.get
  have hmem := List.mem_of_getElem? hb
  have hFb : F b := (hFx b).2 (List.mem_cons_of_mem _ hmem)
  have hMb : (fun b => M0 b ∨ own Fs b) b := .inr ⟨F, List.mem_of_getElem? hF, hFb⟩
  obtain ⟨w', h1, h2, h3⟩ := row_set (P := P) (hrow j b l hb hl) hMb hk z yz (fun p hp => hh.ga p (hg.mem p hp))
  have hnd' := List.nodup_cons.1 hnd
  have hne : ∀ {u : Nat → Prop} {b' : Nat}, b' < w.heap.size → b' ≠ b → w'.heap[b']? = w.heap[b']? := fun hlt hne => h2.block _ hlt hne
  have hother : ∀ {γ : Type} [Rp γ] (e : TypeId) (b' cc : Nat) (l' : List γ), b' ≠ b → (row e (some ⟨b', 0, none⟩) cc l').p (fun x => x = b') (fun b => M0 b ∨ own Fs b) w → (row e (some ⟨b', 0, none⟩) cc l').p (fun x => x = b') (fun b => M0 b ∨ own Fs b) w' := by
    intro γ _ e b' cc l' hbb hp
    refine (row _ _ _ _).st _ _ _ _ _ hp (fun u hlt hF' => h2.block u hlt ?_) (fun _ _ h => h) h2.size
    rintro rfl
    rcases hF' with e' | hn
    · exact hbb e'.symm
    · exact hn hMb
  refine ⟨w', ?_, hsl, Fs, hh.set hF (w' := w') ⟨h2.os, h2.tape, h2.output, h2.size, fun u hlt hn => h2.block u hlt (fun e => hn (by rw [e]; exact hFb))⟩ ⟨hother _ _ _ _ (fun e => hnd'.1 (by rw [e]; exact hmem)) hr, hnd, by rw [List.length_set]; exact hlen, fun j' b' l' hb' hl' => ?_, hFx⟩⟩
  · simp only [execOp, hsl.ev hx, hsl.ev hy, Instr.storeAt, Instr.sureAddr, storeVar, Sem.run_bind, Sem.run_pure, Result.andThen_ok, hsz, hvc, List.size_toArray, ne_eq, not_true_eq_false, if_false]
    rw [Nat.zero_add] at h1
    simp [Rp.len, h1]
  · by_cases hj : j = j'
    · subst hj
      rw [hb] at hb'; cases hb'
      rw [List.getElem?_set_self (List.getElem?_eq_some_iff.1 hl).1] at hl'
      cases hl'
      exact h3
    · rw [List.getElem?_set_ne hj] at hl'
      refine hother _ _ _ _ (fun e => hj ?_) (hrow j' b' l' hb' hl')
      subst e
      exact (List.getElem?_inj (List.getElem?_eq_some_iff.1 hb).1 hnd'.2).1 (hb.trans hb'.symm)
theorem o_tput {dst : Option Nat} {x y : Operand} {t e1 e2 : TypeId} {g c m i j k b : Nat} {hs : List Hdr} {gs : List Nat} {ls : List (List β)} {l : List β} {Ξ1 : List Xsn} {nn cc : Nat} {hs' : List Hdr} {ls' : List (List β)} (hdst : dst = none) (hsz : ∀ w, (sizeOf t).run P w = .ok 1 w) (hx : ev σ x = some (.pointer (some ⟨g, 0 + j * Rp.size Hdr, none⟩))) (hy : ev σ y = some (.slice (some ⟨b, 0, none⟩) nn cc))
    (ht : takeAll [i, k] Ξ = some ([tab e1 e2 g c hs m gs ls, row (α := β) e2 (some ⟨b, 0, none⟩) m l], Ξ1)) (hj : j < hs.length) (he1 : hs.set j ⟨some ⟨b, 0, none⟩, nn, cc⟩ = hs') (he2 : ls ++ [l] = ls') :
    OpR P ⟨dst, .store t x y, ty, pos, af, none⟩ (St M0 F0 w0 n σ Ξ Γ) (St M0 F0 w0 n σ (tab e1 e2 g c hs' m (gs ++ [b]) ls' :: Ξ1) Γ) := by
  subst hdst
  subst he1
  subst he2
  refine OpR.of_skip rfl fun a w ⟨hsl, Fs, hh⟩ => ?_
  obtain ⟨Gs, Hs, hp, hin, hrest⟩ := hh.select (Γi := []) ht (fun p hp => by cases hp)
  obtain ⟨G1, G2, rfl⟩ : ∃ G1 G2, Gs = [G1, G2] := by
    match Gs, hin.ex with
    | [], h => exact h.elim
    | [_], h => exact h.2.elim
    | [G1, G2], _ => exact ⟨G1, G2, rfl⟩
    | _ :: _ :: _ :: _, h => exact h.2.2.elim
  obtain ⟨⟨hr, hnd, hlen, hrow, hFx⟩, hb, _⟩ := hin.ex
  have hpw := hin.dis
  have hb0 := row_own hb
  have e2' : G2 = fun x => x = b := funext fun u => propext (hb0.1 u)
  have hdis : ∀ u, G1 u → ¬ G2 u := (List.pairwise_cons.1 hpw).1 G2 (by simp)
  have hG1g : G1 g := (hFx g).2 (by simp)
  have hMg : (fun u => (fun b => M0 b ∨ own Hs b) u ∨ own [G1, G2] u) g := .inr ⟨G1, by simp, hG1g⟩
  obtain ⟨w', h1, h2, h3⟩ := row_set (P := P) hr hMg hj ⟨some ⟨b, 0, none⟩, nn, cc⟩ () (fun p hp => by cases hp)
  have hbn : b ∉ g :: gs := fun hm => hdis b ((hFx b).2 hm) ((hb0.1 b).2 rfl)
  have hnd' := List.nodup_cons.1 hnd
  have hother : ∀ {γ : Type} [Rp γ] (e : TypeId) (b' cc' : Nat) (l' : List γ), b' ≠ g → (row e (some ⟨b', 0, none⟩) cc' l').p (fun x => x = b') (fun u => (fun b => M0 b ∨ own Hs b) u ∨ own [G1, G2] u) w → (row e (some ⟨b', 0, none⟩) cc' l').p (fun x => x = b') (fun u => (fun b => M0 b ∨ own Hs b) u ∨ own [G1, G2] u) w' := by
    intro γ _ e b' cc' l' hbb hp
    refine (row _ _ _ _).st _ _ _ _ _ hp (fun u hlt hF' => h2.block u hlt ?_) (fun _ _ h => h) h2.size
    rintro rfl
    rcases hF' with e' | hn
    · exact hbb e'.symm
    · exact hn hMg
  let G : Nat → Prop := fun u => G1 u ∨ G2 u
  have hG : ∀ u, own [G] u ↔ own [G1, G2] u := fun u => by simp [own_cons, own_nil, G]
  have hM2 : (fun u => (fun b => M0 b ∨ own Hs b) u ∨ own [G] u) = (fun u => (fun b => M0 b ∨ own Hs b) u ∨ own [G1, G2] u) := funext fun u => by rw [hG u]
  have key : Hp (fun b => M0 b ∨ own Hs b) (own [G1, G2]) w [tab e1 e2 g c (hs.set j ⟨some ⟨b, 0, none⟩, nn, cc⟩) m (gs ++ [b]) (ls ++ [l])] [] [G] w' := by
    refine ⟨⟨?_, trivial⟩, List.pairwise_singleton _ _, ?_, ?_, ?_, fun p hp => (by cases hp), ⟨h2.os, h2.tape, h2.output, h2.size, fun u hlt hn => h2.block u hlt (fun e => hn (by rw [e]; exact ⟨G1, by simp, hG1g⟩))⟩, hin.m0, hin.f0⟩
    · rw [hM2]
      refine ⟨h3, ?_, by simp [hlen], fun j' b' l' hb' hl' => ?_, fun u => ?_⟩
      · rw [← List.cons_append]
        exact List.nodup_append.2 ⟨hnd, by simp, fun u hu v hv => by rw [List.mem_singleton.1 hv]; exact fun e => hbn (e ▸ hu)⟩
      · rcases Nat.lt_or_ge j' gs.length with hlt | hge
        · rw [List.getElem?_append_left hlt] at hb'
          rw [List.getElem?_append_left (by omega)] at hl'
          exact hother _ _ _ _ (fun e => hnd'.1 (by rw [← e]; exact List.mem_of_getElem? hb')) (hrow j' b' l' hb' hl')
        · rw [List.getElem?_append_right hge] at hb'
          rw [List.getElem?_append_right (by omega)] at hl'
          have hj0 : j' - gs.length = 0 := by have := (List.getElem?_eq_some_iff.1 hb').1; simpa using this
          rw [hj0] at hb'
          rw [show j' - ls.length = 0 by omega] at hl'
          simp at hb' hl'
          subst hb'; subst hl'
          exact hother _ _ _ _ (fun e => hbn (by rw [e]; simp)) (by rw [e2'] at hb ⊢; exact hb)
      · show G1 u ∨ G2 u ↔ _
        rw [hFx u, hb0.1 u]
        simp only [List.mem_cons, List.mem_append, List.mem_nil_iff, or_false, or_assoc]
    · exact fun u hu => hin.dis0 u ((hG u).1 hu)
    · exact fun u hu => Nat.lt_of_lt_of_le (hin.lt u ((hG u).1 hu)) h2.size
    · exact fun u hu hlt => (hG u).1 hu
  have hfin : Hp M0 F0 w0 (tab e1 e2 g c (hs.set j ⟨some ⟨b, 0, none⟩, nn, cc⟩) m (gs ++ [b]) (ls ++ [l]) :: Ξ1) Γ ([G] ++ Hs) w' := by
    have := hh.back hp hrest key
    simpa using this
  refine ⟨w', ?_, hsl, [G] ++ Hs, hfin⟩
  have hc : (Value.slice (some ⟨b, 0, none⟩) nn cc).cells = #[.slice (some ⟨b, 0, none⟩) nn cc] := rfl
  have h1' : (storeCells ⟨g, 0 + j * Rp.size Hdr, none⟩ [.slice (some ⟨b, 0, none⟩) nn cc]).run P w = .ok () w' := h1
  simp only [execOp, hsl.ev hx, hsl.ev hy, Instr.storeAt, Instr.sureAddr, storeVar, Sem.run_bind, Sem.run_pure, Result.andThen_ok, hsz]
  rw [Nat.zero_add] at h1'
  simp [hc, h1']
theorem freezeTab {e1 e2 : TypeId} {g c m i : Nat} {hs : List Hdr} {gs : List Nat} {ls : List (List β)} {Ξ' : List Xsn} {a : Act} {w : World} (hi : takeAt i Ξ = some (tab e1 e2 g c hs m gs ls, Ξ')) (hh0 : hs = gs.map (fun b => ⟨some ⟨b, 0, none⟩, m, m⟩)) (hm : ∀ l ∈ ls, l.length = m) (h : St M0 F0 w0 n σ Ξ Γ a w) : St M0 F0 w0 n σ Ξ' (slA (some ⟨g, 0, none⟩) ls :: Γ) a w := by
  obtain ⟨hs', Fs, hh⟩ := h
  obtain ⟨F, Fs', h1, ⟨hr, hnd, hlen, hrow, hFx⟩, h3⟩ := hh.ex.takeAt hi
  have hp := takeAt_perm h1
  have hown : ∀ b, own Fs b ↔ F b ∨ own Fs' b := fun b => (own_perm hp b).trans own_cons
  have hpw := List.pairwise_cons.1 (perm_pairwise hp hh.dis)
  have hM : ∀ b, b < w.heap.size → (M0 b ∨ own Fs' b) → (M0 b ∨ own Fs b) := fun b _ hm => hm.imp id (fun h => (hown b).2 (.inr h))
  have hFn : ∀ b, F b → ¬ (M0 b ∨ own Fs' b) := by
    rintro b hb (hm | ⟨G, hG, hg'⟩)
    · exact hh.dis0 b ((hown b).2 (.inl hb)) hm
    · exact hpw.1 G hG b hb hg'
  refine ⟨hs', Fs', h3.st (fun _ _ _ => rfl) hM (Nat.le_refl _), hpw.2, fun b hb => hh.dis0 b ((hown b).2 (.inr hb)), fun b hb => hh.lt b ((hown b).2 (.inr hb)), fun b hb => hh.old b ((hown b).2 (.inr hb)), ?_, hh.up, hh.m0, hh.f0⟩
  intro p hp'
  rcases List.mem_cons.1 hp' with rfl | hp'
  · intro j l hj
    have hjl := (List.getElem?_eq_some_iff.1 hj).1
    have hjg : j < gs.length := by omega
    have hb : gs[j]? = some gs[j] := List.getElem?_eq_getElem hjg
    have hjh : hs[j]? = some ⟨some ⟨gs[j], 0, none⟩, m, m⟩ := by rw [hh0, List.getElem?_map, hb]; rfl
    obtain ⟨_, c1, _⟩ := row_at hr hjh
    have hl := hm l (List.mem_of_getElem? hj)
    have hfg : F g := (hFx g).2 (by simp)
    have hgb : F gs[j] := (hFx _).2 (List.mem_cons_of_mem _ (List.getElem_mem _))
    refine ⟨g, 0, (some ⟨gs[j], 0, none⟩, m), rfl, hFn g hfg, (row_own hr).2, fun i v hv => ?_, fun p hp => ?_⟩
    · have hv' : ([Value.slice (some ⟨gs[j], 0, none⟩) l.length m])[i]? = some v := hv
      rw [hl] at hv'
      exact c1 i v hv'
    · have hrj := hrow j gs[j] l hb hj
      simp only [Rp.asn, List.mem_cons, List.mem_nil_iff, or_false] at hp
      rcases hp with rfl | rfl
      · intro q x hq
        obtain ⟨y, d1, d2⟩ := row_at hrj hq
        exact ⟨gs[j], 0, y, rfl, hFn _ hgb, (row_own hrj).2, d1, fun p hp => p.st _ _ _ _ (d2 p hp) (fun _ _ _ => rfl) hM (Nat.le_refl _)⟩
      · intro h; cases h
  · exact p.st _ _ _ _ (hh.ga p hp') (fun _ _ _ => rfl) hM (Nat.le_refl _)
end
theorem run_eqst2 {P : Program} {w : World} {t e : TypeId} {f0 f1 : Field} {a1 a2 b1 b2 : Int} (ht : P.underlying t = some (.struct #[f0, f1])) (hp : P.stoodInHeld t = false) (h0 : (f0.name == "_") = false) (h1 : (f1.name == "_") = false) (o0 : f0.offset = 0) (o1 : f1.offset = 1) (t0 : f0.type = e) (t1 : f1.type = e)
    (he : P.underlying e = some (.int .i64)) (hag : ∀ w, (isAgg e).run P w = .ok false w) :
    (Op.equalIn 10000 t (.agg #[.int .i64 a1, .int .i64 a2]) (.agg #[.int .i64 b1, .int .i64 b2])).run P w = .ok (decide (a1 = b1) && decide (a2 = b2)) w := by
  have hfo : P.fieldsOf t = #[f0, f1] := by simp [Program.fieldsOf, ht]
  have hq0 : ∀ (g : Nat) (k m : Int), (Op.equalIn (g + 1) e (.int .i64 k) (.int .i64 m)).run P w = .ok (decide (k = m)) w := fun g k m => by
    simp only [Op.equalIn, Sem.run_bind, run_underlying he, Result.andThen_ok, Sem.run_pure]
    by_cases h : k = m <;> simp [h]
  have hq : ∀ (k m : Int), (Op.equalIn 9999 e (.int .i64 k) (.int .i64 m)).run P w = .ok (decide (k = m)) w := fun k m => hq0 9998 k m
  have hpt : ∀ (cs : Array Value) (j : Nat) (v : Value), cs[j]? = some v → (part e cs j).run P w = .ok v w := fun cs j v hj => by
    simp [part, hag, hj]
  have n0 : f0.name ≠ "_" := by simpa using h0
  have n1 : f1.name ≠ "_" := by simpa using h1
  have hp0 : ∀ (x y : Value), (part e #[x, y] 0).run P w = .ok x w := fun x y => hpt _ 0 _ rfl
  have hp1 : ∀ (x y : Value), (part e #[x, y] 1).run P w = .ok y w := fun x y => hpt _ 1 _ rfl
  rw [show (10000 : Nat) = 9999 + 1 from rfl, run_equalIn_struct w 9999 t _ _ (by rw [hfo]; exact ht) hp, hfo]
  simp only [Op.eqFields, t0, t1, o0, o1, n0, n1, ne_eq, not_false_eq_true, if_true, Sem.run_bind, hp0, hp1, hq, Result.andThen_ok]
  by_cases h : a1 = b1 <;> by_cases h' : a2 = b2 <;> simp [h, h', hp1, hq]
theorem p_eqst2 {P : Program} {n : Nm} {σ : List (Nat × Value)} {d : Nat} {ty : TypeId} {pos : String} {af : Array Edge} {T : World → Prop} {x y : Operand} {t e t' : TypeId} {f0 f1 : Field} {a1 a2 b1 b2 : Int} (ht : P.underlying t = some (.struct #[f0, f1])) (hp : P.stoodInHeld t = false) (h0 : (f0.name == "_") = false) (h1 : (f1.name == "_") = false) (o0 : f0.offset = 0) (o1 : f1.offset = 1) (t0 : f0.type = e) (t1 : f1.type = e)
    (he : P.underlying e = some (.int .i64)) (hag : ∀ w, (isAgg e).run P w = .ok false w) (hm : P.eqGuardType P.depth t = false)
    (hx : ev σ x = some (.agg #[.int .i64 a1, .int .i64 a2])) (hy : ev σ y = some (.agg #[.int .i64 b1, .int .i64 b2])) :
    Pu P n σ T ⟨some d, .binOp .eql t x y t', ty, pos, af, none⟩ (.bool (decide (a1 = b1) && decide (a2 = b2))) := fun a hs w _ => by
  have hg := run_eqGuard_agg (P := P) (w := w) .eql t x y #[.int .i64 a1, .int .i64 a2] #[.int .i64 b1, .int .i64 b2] hm
  have h2 := run_eql_struct (P := P) (w := w) t #[.int .i64 a1, .int .i64 a2] #[.int .i64 b1, .int .i64 b2]
  have h3 := run_eqst2 (w := w) (a1 := a1) (a2 := a2) (b1 := b1) (b2 := b2) ht hp h0 h1 o0 o1 t0 t1 he hag
  simp [execOp, hs.ev hx, hs.ev hy, hg, h3, h2]
theorem p_nest2 {P : Program} {n : Nm} {σ : List (Nat × Value)} {d : Nat} {ty : TypeId} {pos : String} {af : Array Edge} {T : World → Prop} {x y : Operand} {t e t' : TypeId} {f0 f1 : Field} {a1 a2 b1 b2 : Int} (ht : P.underlying t = some (.struct #[f0, f1])) (hp : P.stoodInHeld t = false) (h0 : (f0.name == "_") = false) (h1 : (f1.name == "_") = false) (o0 : f0.offset = 0) (o1 : f1.offset = 1) (t0 : f0.type = e) (t1 : f1.type = e)
    (he : P.underlying e = some (.int .i64)) (hag : ∀ w, (isAgg e).run P w = .ok false w) (hm : P.eqGuardType P.depth t = false)
    (hx : ev σ x = some (.agg #[.int .i64 a1, .int .i64 a2])) (hy : ev σ y = some (.agg #[.int .i64 b1, .int .i64 b2])) :
    Pu P n σ T ⟨some d, .binOp .neq t x y t', ty, pos, af, none⟩ (.bool !(decide (a1 = b1) && decide (a2 = b2))) := fun a hs w _ => by
  have hg := run_eqGuard_agg (P := P) (w := w) .neq t x y #[.int .i64 a1, .int .i64 a2] #[.int .i64 b1, .int .i64 b2] hm
  have h2 := run_neq_struct (P := P) (w := w) t #[.int .i64 a1, .int .i64 a2] #[.int .i64 b1, .int .i64 b2]
  have h3 := run_eqst2 (w := w) (a1 := a1) (a2 := a2) (b1 := b1) (b2 := b2) ht hp h0 h1 o0 o1 t0 t1 he hag
  simp [execOp, hs.ev hx, hs.ev hy, hg, h3, h2]
/-! tables of numbers -/
def mkT (N M : Nat) (f : Nat → Nat → Int) : List (List Int) := (List.range N).map fun r => (List.range M).map (f r)
def upF (f : Nat → Nat → Int) (r k : Nat) (v : Int) : Nat → Nat → Int := fun r' k' => if r' = r ∧ k' = k then v else f r' k'
theorem mkT_length (N M : Nat) (f) : (mkT N M f).length = N := by simp [mkT]
theorem mkT_row {N M : Nat} {f : Nat → Nat → Int} {r : Nat} (h : r < N) : (mkT N M f)[r]? = some ((List.range M).map (f r)) := by simp [mkT, h]
theorem mkR_at {M : Nat} {f : Nat → Int} {k : Nat} (h : k < M) : ((List.range M).map f)[k]? = some (f k) := by simp [h]
theorem mkR_length (M : Nat) (f : Nat → Int) : ((List.range M).map f).length = M := by simp
theorem mkT_mem {N M : Nat} {f : Nat → Nat → Int} : ∀ l ∈ mkT N M f, l.length = M := by
  intro l hl
  simp only [mkT, List.mem_map] at hl
  obtain ⟨r, _, rfl⟩ := hl
  simp
theorem mkT_ext {N M : Nat} {f g : Nat → Nat → Int} (h : ∀ r k, r < N → k < M → f r k = g r k) : mkT N M f = mkT N M g := by
  unfold mkT
  refine List.map_congr_left fun r hr => List.map_congr_left fun k hk => h r k (List.mem_range.1 hr) (List.mem_range.1 hk)
theorem mkR_set {M : Nat} {f g : Nat → Int} {k : Nat} {v : Int} (h : ∀ k', k' < M → g k' = if k' = k then v else f k') : ((List.range M).map f).set k v = (List.range M).map g := by
  refine List.ext_getElem (by simp) fun i h1 h2 => ?_
  simp only [List.length_set, List.length_map, List.length_range] at h1
  rw [List.getElem_set]
  simp only [List.getElem_map, List.getElem_range]
  rw [h i h1]
  by_cases e : k = i
  · rw [if_pos e, if_pos e.symm]
  · rw [if_neg e, if_neg (fun h => e h.symm)]
theorem mkT_set {N M : Nat} {f g : Nat → Nat → Int} {r k : Nat} {v : Int} (h : ∀ r' k', r' < N → k' < M → g r' k' = if r' = r ∧ k' = k then v else f r' k') : (mkT N M f).set r (((List.range M).map (f r)).set k v) = mkT N M g := by
  refine List.ext_getElem (by simp [mkT]) fun i h1 h2 => ?_
  simp only [List.length_set, mkT_length] at h1
  rw [List.getElem_set]
  simp only [mkT, List.getElem_map, List.getElem_range]
  by_cases e : r = i
  · subst e
    rw [if_pos rfl]
    refine mkR_set fun k' hk' => ?_
    rw [h r k' h1 hk']
    by_cases e2 : k' = k
    · rw [if_pos ⟨rfl, e2⟩, if_pos e2]
    · rw [if_neg (fun h => e2 h.2), if_neg e2]
  · rw [if_neg e]
    refine List.map_congr_left fun k' hk' => ?_
    rw [h i k' h1 (List.mem_range.1 hk'), if_neg (fun h => e h.1.symm)]
theorem mkT_rep {N M k : Nat} (h : k = N) : List.replicate k (List.replicate M (0 : Int)) = mkT N M (fun _ _ => 0) := by
  subst h
  unfold mkT
  refine List.ext_getElem (by simp) fun i h1 h2 => ?_
  simp only [List.getElem_replicate, List.getElem_map]
  refine List.ext_getElem (by simp) fun j h3 h4 => ?_
  simp
def hd (M : Nat) (gs : List Nat) (N : Nat) : List Hdr := gs.map (fun b => ⟨some ⟨b, 0, none⟩, M, M⟩) ++ List.replicate (N - gs.length) ⟨none, 0, 0⟩
theorem hd_0 (M N : Nat) : List.replicate N (⟨none, 0, 0⟩ : Hdr) = hd M [] N := by simp [hd]
theorem hd_length {M : Nat} {gs : List Nat} {N : Nat} (h : gs.length ≤ N) : (hd M gs N).length = N := by simp [hd]; omega
theorem hd_set {M : Nat} {gs : List Nat} {N b : Nat} (h : gs.length < N) : (hd M gs N).set gs.length ⟨some ⟨b, 0, none⟩, M, M⟩ = hd M (gs ++ [b]) N := by
  unfold hd
  rw [List.set_append_right _ _ (by simp), List.length_map, Nat.sub_self, show N - gs.length = (N - (gs ++ [b]).length) + 1 by simp; omega, List.replicate_succ, List.set_cons_zero, List.map_append, List.append_assoc]
  rfl
theorem hd_all {M : Nat} {gs : List Nat} {N : Nat} (h : gs.length = N) : hd M gs N = gs.map (fun b => ⟨some ⟨b, 0, none⟩, M, M⟩) := by simp [hd, h]
theorem hd_at {M : Nat} {gs : List Nat} {N j : Nat} (h : gs.length = N) (hj : j < gs.length) : (hd M gs N)[j]? = some ⟨some ⟨gs[j], 0, none⟩, M, M⟩ := by
  rw [hd_all h, List.getElem?_map, List.getElem?_eq_getElem hj]; rfl
instance instRpPair : Rp (Nat × Nat) where
  Lay := Unit
  size := 2
  enc x _ := [.int .i64 (x.1 : Int), .int .i64 (x.2 : Int)]
  len _ _ := rfl
  one _ _ v hv := by
    simp only [List.mem_cons, List.mem_nil_iff, or_false] at hv
    rcases hv with rfl | rfl <;> rfl
  asn _ _ := []
end Go.Sx

end
section
set_option linter.unusedVariables false
set_option linter.unusedSimpArgs false
namespace Go.Proofs.YtdbiillompeclaaGreatDoor.X
open Go Go.RowKit Go.Proofs Go.Sx
/-! Lines that two rows have in common. -/
def lcsGo (x : ByteArray) (f : List ByteArray → Nat) : List ByteArray → Nat
  | [] => 0
  | y :: b => if x = y then f b + 1 else max (f (y :: b)) (lcsGo x f b)
def lcs : List ByteArray → List ByteArray → Nat
  | [] => fun _ => 0
  | x :: a => lcsGo x (lcs a)
theorem lcs_nil (b : List ByteArray) : lcs [] b = 0 := rfl
theorem lcs_nilr (a : List ByteArray) : lcs a [] = 0 := by cases a <;> rfl
theorem lcs_cons (x y : ByteArray) (a b : List ByteArray) : lcs (x :: a) (y :: b) = if x = y then lcs a b + 1 else max (lcs a (y :: b)) (lcs (x :: a) b) := rfl
theorem sub_tail {c a : List ByteArray} {x : ByteArray} (h : c.Sublist (x :: a)) : c.tail.Sublist a := by
  cases h with
  | cons _ h => exact (List.tail_sublist c).trans h
  | cons_cons _ h => exact h
theorem lcs_ub : ∀ (n : Nat) (a b c : List ByteArray), a.length + b.length ≤ n → c.Sublist a → c.Sublist b → c.length ≤ lcs a b := by
  intro n
  induction n with
  | zero =>
    intro a b c hn h1 h2
    have h3 := h1.length_le
    omega
  | succ n ih =>
    intro a b c hn h1 h2
    cases a with
    | nil => have := h1.length_le; simp at this; simp [this]
    | cons x a =>
      cases b with
      | nil => have := h2.length_le; simp at this; simp [this]
      | cons y b =>
        simp only [List.length_cons] at hn
        rw [lcs_cons]
        split
        · have := ih a b c.tail (by omega) (sub_tail h1) (sub_tail h2)
          simp only [List.length_tail] at this
          omega
        · rename_i hne
          cases h1 with
          | cons _ h1 => have := ih a (y :: b) c (by simp; omega) h1 h2; omega
          | @cons_cons c' _ _ h1 =>
            cases h2 with
            | cons _ h2 => have := ih (x :: a) b (x :: c') (by simp; omega) (h1.cons_cons x) h2; omega
            | cons_cons _ h2 => exact absurd rfl hne
theorem lcs_ex : ∀ (n : Nat) (a b : List ByteArray), a.length + b.length ≤ n → ∃ c, List.Sublist c a ∧ List.Sublist c b ∧ c.length = lcs a b := by
  intro n
  induction n with
  | zero =>
    intro a b hn
    obtain rfl : a = [] := List.length_eq_zero_iff.1 (by omega)
    exact ⟨[], List.nil_sublist _, List.nil_sublist _, (lcs_nil b).symm⟩
  | succ n ih =>
    intro a b hn
    cases a with
    | nil => exact ⟨[], List.nil_sublist _, List.nil_sublist _, (lcs_nil b).symm⟩
    | cons x a =>
      cases b with
      | nil => exact ⟨[], List.nil_sublist _, List.nil_sublist _, (lcs_nilr _).symm⟩
      | cons y b =>
        simp only [List.length_cons] at hn
        rw [lcs_cons]
        split
        · rename_i e
          subst e
          obtain ⟨c, h1, h2, h3⟩ := ih a b (by omega)
          exact ⟨x :: c, h1.cons_cons x, h2.cons_cons x, by simp [h3]⟩
        · obtain ⟨c, h1, h2, h3⟩ := ih a (y :: b) (by simp; omega)
          obtain ⟨d, k1, k2, k3⟩ := ih (x :: a) b (by simp; omega)
          rcases Nat.le_total (lcs a (y :: b)) (lcs (x :: a) b) with h | h
          · exact ⟨d, k1, k2.cons y, by omega⟩
          · exact ⟨c, h1.cons x, h2, by omega⟩
theorem lcs_le {a b c : List ByteArray} (h1 : c.Sublist a) (h2 : c.Sublist b) : c.length ≤ lcs a b := lcs_ub _ a b c (Nat.le_refl _) h1 h2
theorem lcs_has (a b : List ByteArray) : ∃ c, List.Sublist c a ∧ List.Sublist c b ∧ c.length = lcs a b := lcs_ex _ a b (Nat.le_refl _)
theorem lcs_comm (a b : List ByteArray) : lcs a b = lcs b a := by
  obtain ⟨c, h1, h2, h3⟩ := lcs_has a b
  obtain ⟨d, k1, k2, k3⟩ := lcs_has b a
  have := lcs_le h2 h1
  have := lcs_le k2 k1
  omega
theorem lcs_rev (a b : List ByteArray) : lcs a.reverse b.reverse = lcs a b := by
  obtain ⟨c, h1, h2, h3⟩ := lcs_has a b
  obtain ⟨d, k1, k2, k3⟩ := lcs_has a.reverse b.reverse
  have e1 := lcs_le h1.reverse h2.reverse
  have e2 := lcs_le (a := a) (b := b) (c := d.reverse) (by simpa using k1.reverse) (by simpa using k2.reverse)
  rw [List.length_reverse] at e1 e2
  omega
theorem lcs_lip (a b : List ByteArray) (y : ByteArray) : lcs a (y :: b) ≤ lcs a b + 1 := by
  obtain ⟨c, h1, h2, h3⟩ := lcs_has a (y :: b)
  have := lcs_le ((List.tail_sublist c).trans h1) (sub_tail h2)
  simp only [List.length_tail] at this
  omega
theorem lcs_lipl (a b : List ByteArray) (x : ByteArray) : lcs (x :: a) b ≤ lcs a b + 1 := by
  rw [lcs_comm, lcs_comm a b]; exact lcs_lip b a x
theorem lcs_mono (a b : List ByteArray) (y : ByteArray) : lcs a b ≤ lcs a (y :: b) := by
  obtain ⟨c, h1, h2, h3⟩ := lcs_has a b
  rw [← h3]; exact lcs_le h1 (h2.cons y)
theorem lcs_monol (a b : List ByteArray) (x : ByteArray) : lcs a b ≤ lcs (x :: a) b := by
  rw [lcs_comm, lcs_comm _ b]; exact lcs_mono b a x
theorem lcs_self (a : List ByteArray) : lcs a a = a.length := by
  have h1 := lcs_le (List.Sublist.refl a) (List.Sublist.refl a)
  obtain ⟨c, h2, _, h3⟩ := lcs_has a a
  have := h2.length_le
  omega
theorem lcs_lenl (a b : List ByteArray) : lcs a b ≤ a.length := by
  obtain ⟨c, h2, _, h3⟩ := lcs_has a b
  have := h2.length_le
  omega
theorem lcs_lenr (a b : List ByteArray) : lcs a b ≤ b.length := by rw [lcs_comm]; exact lcs_lenl b a
/-! the tables -/
def cmn (a b : List ByteArray) (i k : Nat) : Nat := lcs (a.drop i) (b.drop k)
theorem cmn_end {a b : List ByteArray} {i k : Nat} (h : a.length ≤ i ∨ b.length ≤ k) : cmn a b i k = 0 := by
  unfold cmn
  rcases h with h | h
  · rw [List.drop_eq_nil_of_le h, lcs_nil]
  · rw [List.drop_eq_nil_of_le h, lcs_nilr]
theorem cmn_at {a b : List ByteArray} {i k : Nat} (hi : i < a.length) (hk : k < b.length) : cmn a b i k = if a[i] = b[k] then cmn a b (i + 1) (k + 1) + 1 else max (cmn a b (i + 1) k) (cmn a b i (k + 1)) := by
  unfold cmn
  rw [List.drop_eq_getElem_cons hi, List.drop_eq_getElem_cons hk, lcs_cons]
theorem cmn_eq {a b : List ByteArray} {i k : Nat} (hi : i < a.length) (hk : k < b.length) (h : a[i] = b[k]) : cmn a b i k = cmn a b (i + 1) (k + 1) + 1 := by rw [cmn_at hi hk, if_pos h]
theorem cmn_ne {a b : List ByteArray} {i k : Nat} (hi : i < a.length) (hk : k < b.length) (h : ¬ a[i] = b[k]) : cmn a b i k = max (cmn a b (i + 1) k) (cmn a b i (k + 1)) := by rw [cmn_at hi hk, if_neg h]
theorem cmn_le {a b : List ByteArray} {i k : Nat} : cmn a b i k ≤ b.length - k := by
  have := lcs_lenr (a.drop i) (b.drop k)
  rw [List.length_drop] at this; exact this
theorem cmn_lel {a b : List ByteArray} {i k : Nat} : cmn a b i k ≤ a.length - i := by
  have := lcs_lenl (a.drop i) (b.drop k)
  rw [List.length_drop] at this; exact this
def beg (a b : List ByteArray) (i k : Nat) : Nat := lcs (a.take i).reverse (b.take k).reverse
theorem take_succ_rev {a : List ByteArray} {i : Nat} (hi : i < a.length) : (a.take (i + 1)).reverse = a[i] :: (a.take i).reverse := by
  rw [List.take_succ_eq_append_getElem hi, List.reverse_append]; rfl
theorem beg_0 (a b : List ByteArray) (k : Nat) : beg a b 0 k = 0 := by unfold beg; rw [List.take_zero, List.reverse_nil, lcs_nil]
theorem beg_0r (a b : List ByteArray) (i : Nat) : beg a b i 0 = 0 := by unfold beg; rw [List.take_zero, List.reverse_nil, lcs_nilr]
theorem beg_eq {a b : List ByteArray} {i k : Nat} (hi : i < a.length) (hk : k < b.length) (h : a[i] = b[k]) : beg a b (i + 1) (k + 1) = beg a b i k + 1 := by
  unfold beg; rw [take_succ_rev hi, take_succ_rev hk, lcs_cons, if_pos h]
theorem beg_ne {a b : List ByteArray} {i k : Nat} (hi : i < a.length) (hk : k < b.length) (h : ¬ a[i] = b[k]) : beg a b (i + 1) (k + 1) = max (beg a b i (k + 1)) (beg a b (i + 1) k) := by
  unfold beg; rw [take_succ_rev hi, take_succ_rev hk, lcs_cons, if_neg h]
theorem beg_lip {a b : List ByteArray} {i k : Nat} (hi : i < a.length) (hk : k < b.length) : beg a b i (k + 1) ≤ beg a b i k + 1 ∧ beg a b (i + 1) k ≤ beg a b i k + 1 := by
  unfold beg; rw [take_succ_rev hi, take_succ_rev hk]; exact ⟨lcs_lip _ _ _, lcs_lipl _ _ _⟩
theorem beg_all (a b : List ByteArray) : beg a b a.length b.length = lcs a b := by
  unfold beg; rw [List.take_length, List.take_length, lcs_rev]
theorem beg_rev (a b : List ByteArray) {i k : Nat} (hi : i ≤ a.length) (hk : k ≤ b.length) : beg a.reverse b.reverse (a.length - i) (b.length - k) = cmn a b i k := by
  unfold beg cmn
  rw [List.take_reverse, List.take_reverse, List.reverse_reverse, List.reverse_reverse]
  congr 1 <;> congr 1 <;> omega
/-! the pairs -/
structure Cand (a b : List ByteArray) (i k x y : Nat) : Prop where
  ix : i ≤ x
  ky : k ≤ y
  xl : x < a.length
  yl : y < b.length
  eq : a[x] = b[y]
  n : cmn a b x y = cmn a b i k
theorem cand_ex (a b : List ByteArray) : ∀ (n i k : Nat), a.length - i + (b.length - k) ≤ n → 0 < cmn a b i k → ∃ x y, Cand a b i k x y := by
  intro n
  induction n with
  | zero =>
    intro i k hn h
    rw [cmn_end (.inl (by omega))] at h
    omega
  | succ n ih =>
    intro i k hn h
    by_cases hi : i < a.length
    · by_cases hk : k < b.length
      · by_cases he : a[i] = b[k]
        · exact ⟨i, k, Nat.le_refl _, Nat.le_refl _, hi, hk, he, rfl⟩
        · have h1 := cmn_ne hi hk he
          rcases Nat.le_total (cmn a b (i + 1) k) (cmn a b i (k + 1)) with h2 | h2
          · obtain ⟨x, y, c⟩ := ih i (k + 1) (by omega) (by omega)
            exact ⟨x, y, c.ix, by have := c.ky; omega, c.xl, c.yl, c.eq, by rw [c.n]; omega⟩
          · obtain ⟨x, y, c⟩ := ih (i + 1) k (by omega) (by omega)
            exact ⟨x, y, by have := c.ix; omega, c.ky, c.xl, c.yl, c.eq, by rw [c.n]; omega⟩
      · rw [cmn_end (.inr (by omega))] at h; omega
    · rw [cmn_end (.inl (by omega))] at h; omega
def NextP (a b : List ByteArray) (i k x y : Nat) : Prop := Cand a b i k x y ∧ ∀ x' y', Cand a b i k x' y' → x < x' ∨ x = x' ∧ y ≤ y'
def NoneB (a b : List ByteArray) (i k x y : Nat) : Prop := ∀ x' y', Cand a b i k x' y' → x < x' ∨ x = x' ∧ y ≤ y'
theorem noneB_0 (a b : List ByteArray) (i k : Nat) : NoneB a b i k i k := fun x' y' c => by
  have := c.ix; have := c.ky
  rcases Nat.lt_or_ge i x' with h | h
  · exact .inl h
  · exact .inr ⟨by omega, c.ky⟩
theorem noneB_y {a b : List ByteArray} {i k x y : Nat} (h : NoneB a b i k x y) (hn : ¬ Cand a b i k x y) : NoneB a b i k x (y + 1) := fun x' y' c => by
  rcases h x' y' c with h | ⟨rfl, h⟩
  · exact .inl h
  · rcases Nat.lt_or_ge y y' with h2 | h2
    · exact .inr ⟨rfl, h2⟩
    · have : y = y' := by omega
      subst this; exact absurd c hn
theorem noneB_x {a b : List ByteArray} {i k x y : Nat} (h : NoneB a b i k x y) (hy : b.length ≤ y) : NoneB a b i k (x + 1) k := fun x' y' c => by
  have := c.yl
  have := c.ky
  rcases h x' y' c with h | ⟨rfl, h⟩
  · rcases Nat.lt_or_ge (x + 1) x' with h2 | h2
    · exact .inl h2
    · exact .inr ⟨by omega, c.ky⟩
  · omega
theorem noneB_end {a b : List ByteArray} {i k x y : Nat} (h : NoneB a b i k x y) (hx : a.length ≤ x) : ¬ 0 < cmn a b i k := fun h0 => by
  obtain ⟨x', y', c⟩ := cand_ex a b _ i k (Nat.le_refl _) h0
  have := c.xl
  rcases h x' y' c with h | ⟨h, _⟩ <;> omega
theorem noneB_lt {a b : List ByteArray} {i k x y : Nat} (h : NoneB a b i k x y) (h0 : 0 < cmn a b i k) : x < a.length := by
  rcases Nat.lt_or_ge x a.length with hx | hx
  · exact hx
  · exact absurd h0 (noneB_end h hx)
theorem next_one {a b : List ByteArray} {i k x y x' y' : Nat} (h : NextP a b i k x y) (h' : NextP a b i k x' y') : x = x' ∧ y = y' := by
  rcases h.2 x' y' h'.1 with h1 | ⟨h1, h2⟩ <;> rcases h'.2 x y h.1 with h3 | ⟨h3, h4⟩ <;> omega
inductive Chain (a b : List ByteArray) : List (Nat × Nat) → Nat → Nat → Prop
  | nil : Chain a b [] 0 0
  | snoc {l i k x y} : Chain a b l i k → 0 < cmn a b i k → NextP a b i k x y → Chain a b (l ++ [(x, y)]) (x + 1) (y + 1)
def Comm (a b : List ByteArray) (l : List (Nat × Nat)) : Prop := ∃ i k, Chain a b l i k ∧ cmn a b i k = 0
theorem next_cmn {a b : List ByteArray} {i k x y : Nat} (h : Cand a b i k x y) : cmn a b i k = cmn a b (x + 1) (y + 1) + 1 := by
  rw [← h.n]; exact cmn_eq h.xl h.yl h.eq
theorem Chain.len {a b : List ByteArray} {l : List (Nat × Nat)} {i k : Nat} (h : Chain a b l i k) : l.length + cmn a b i k = lcs a b := by
  induction h with
  | nil => simp [cmn]
  | snoc _ _ hn ih => have := next_cmn hn.1; simp; omega
theorem Chain.le {a b : List ByteArray} {l : List (Nat × Nat)} {i k : Nat} (h : Chain a b l i k) : i ≤ a.length ∧ k ≤ b.length := by
  cases h with
  | nil => exact ⟨Nat.zero_le _, Nat.zero_le _⟩
  | snoc _ _ hn => exact ⟨hn.1.xl, hn.1.yl⟩
theorem Chain.one {a b : List ByteArray} {l : List (Nat × Nat)} {i k : Nat} (h : Chain a b l i k) : ∀ {m : List (Nat × Nat)} {i' k' : Nat}, Chain a b m i' k' → l.length = m.length → l = m ∧ i = i' ∧ k = k' := by
  induction h with
  | nil =>
    intro m i' k' h' hl
    cases h' with
    | nil => exact ⟨rfl, rfl, rfl⟩
    | snoc => simp at hl
  | snoc h0 hp hn ih =>
    intro m i' k' h' hl
    cases h' with
    | nil => simp at hl
    | snoc h0' hp' hn' =>
      obtain ⟨rfl, rfl, rfl⟩ := ih h0' (by simpa using hl)
      obtain ⟨rfl, rfl⟩ := next_one hn hn'
      exact ⟨rfl, rfl, rfl⟩
theorem Comm.len {a b : List ByteArray} {l : List (Nat × Nat)} (h : Comm a b l) : l.length = lcs a b := by
  obtain ⟨i, k, h1, h2⟩ := h
  have := h1.len; omega
theorem Comm.one {a b : List ByteArray} {l m : List (Nat × Nat)} (h : Comm a b l) (h' : Comm a b m) : l = m := by
  have e : l.length = m.length := by rw [h.len, h'.len]
  obtain ⟨i, k, h1, _⟩ := h
  obtain ⟨i', k', h2, _⟩ := h'
  exact (h1.one h2 e).1
theorem Chain.at {a b : List ByteArray} {l : List (Nat × Nat)} {i k : Nat} (h : Chain a b l i k) : (∀ p ∈ l, p.1 < i ∧ p.2 < k ∧ ∃ (h1 : p.1 < a.length) (h2 : p.2 < b.length), a[p.1] = b[p.2]) ∧ l.Pairwise (fun p q => p.1 < q.1 ∧ p.2 < q.2) := by
  induction h with
  | nil => exact ⟨fun p hp => (by cases hp), .nil⟩
  | @snoc l i k x y h0 hp hn ih =>
    have c := hn.1
    refine ⟨fun p hp => ?_, ?_⟩
    · rcases List.mem_append.1 hp with hp | hp
      · obtain ⟨h1, h2, h3⟩ := ih.1 p hp
        have := c.ix; have := c.ky
        exact ⟨by omega, by omega, h3⟩
      · cases List.mem_singleton.1 hp
        exact ⟨Nat.lt_succ_self _, Nat.lt_succ_self _, c.xl, c.yl, c.eq⟩
    · refine List.pairwise_append.2 ⟨ih.2, List.pairwise_singleton _ _, fun p hp q hq => ?_⟩
      cases List.mem_singleton.1 hq
      obtain ⟨h1, h2, _⟩ := ih.1 p hp
      have := c.ix; have := c.ky
      exact ⟨by dsimp only; omega, by dsimp only; omega⟩
/-! there are such pairs -/
theorem lex_least {p : Nat → Nat → Prop} (h : ∃ x y, p x y) : ∃ x y, p x y ∧ ∀ x' y', p x' y' → x < x' ∨ x = x' ∧ y ≤ y' := by
  have h1 : ∃ x, ∃ y, p x y := h
  obtain ⟨hx, hmin⟩ := leastOf_spec h1
  obtain ⟨hy, hmin2⟩ := leastOf_spec hx
  refine ⟨_, _, hy, fun x' y' hp => ?_⟩
  have h2 := hmin x' ⟨y', hp⟩
  rcases Nat.lt_or_ge (leastOf fun x => ∃ y, p x y) x' with h3 | h3
  · exact .inl h3
  · have e : (leastOf fun x => ∃ y, p x y) = x' := by omega
    refine .inr ⟨e, hmin2 y' ?_⟩
    rw [e]; exact hp
theorem next_ex {a b : List ByteArray} {i k : Nat} (h : 0 < cmn a b i k) : ∃ x y, NextP a b i k x y := lex_least (cand_ex a b _ i k (Nat.le_refl _) h)
theorem comm_ex (a b : List ByteArray) : ∃ l, Comm a b l := by
  have key : ∀ (n : Nat) (l : List (Nat × Nat)) (i k : Nat), Chain a b l i k → cmn a b i k ≤ n → ∃ l, Comm a b l := by
    intro n
    induction n with
    | zero => intro l i k h hn; exact ⟨l, i, k, h, by omega⟩
    | succ n ih =>
      intro l i k h hn
      rcases Nat.eq_zero_or_pos (cmn a b i k) with h0 | h0
      · exact ⟨l, i, k, h, h0⟩
      · obtain ⟨x, y, hxy⟩ := next_ex h0
        have := next_cmn hxy.1
        exact ih _ _ _ (h.snoc h0 hxy) (by omega)
  exact key _ [] 0 0 Chain.nil (Nat.le_refl _)
noncomputable def commF (a b : List ByteArray) : List (Nat × Nat) := Classical.choose (comm_ex a b)
theorem commF_spec (a b : List ByteArray) : Comm a b (commF a b) := Classical.choose_spec (comm_ex a b)
theorem Comm.eq {a b : List ByteArray} {l : List (Nat × Nat)} (h : Comm a b l) : l = commF a b := h.one (commF_spec a b)
end Go.Proofs.YtdbiillompeclaaGreatDoor.X

end
section
set_option linter.unusedVariables false
set_option linter.unusedSimpArgs false
namespace Go.Sx
open Go Go.RowKit

/-! Laws on trees, as they stand in memory and in the document. -/
theorem getT_put {T : List File} (h : Sor T) (k k' : ByteArray) (l : List ByteArray) : getT (putT T k l) k' = if k' = k then some l else getT T k' := by
  apply Option.ext
  intro v
  rw [getT_some (h.put k l), mem_putT]
  by_cases e : k' = k
  · subst e
    rw [if_pos rfl]
    constructor
    · rintro (h1 | ⟨_, h2⟩)
      · injection h1 with _ h1; rw [h1]
      · exact absurd rfl h2
    · intro h1; injection h1 with h1; subst h1; exact .inl rfl
  · rw [if_neg e, getT_some h]
    constructor
    · rintro (h1 | ⟨h1, _⟩)
      · injection h1 with h1 _; exact absurd h1 e
      · exact h1
    · exact fun h1 => .inr ⟨h1, e⟩
theorem getT_del {T : List File} (h : Sor T) (k k' : ByteArray) : getT (delT T k) k' = if k' = k then none else getT T k' := by
  apply Option.ext
  intro v
  rw [getT_some (h.del k), mem_delT]
  by_cases e : k' = k
  · subst e
    rw [if_pos rfl]
    constructor
    · rintro ⟨_, h2⟩; exact absurd rfl h2
    · intro h1; cases h1
  · rw [if_neg e, getT_some h]
    exact ⟨fun h1 => h1.1, fun h1 => ⟨h1, e⟩⟩
theorem getT_ext {T U : List File} (hT : Sor T) (hU : Sor U) (h : ∀ k, getT T k = getT U k) : T = U :=
  sor_ext hT hU fun x => by
    have := h x.1
    rw [← getT_some (k := x.1) (l := x.2) hT, ← getT_some (k := x.1) (l := x.2) hU, this]
theorem hasT_no {T : List File} {k : ByteArray} (h : hasT T k = false) : getT T k = none := by
  unfold hasT at h
  cases e : getT T k with
  | none => rfl
  | some v => rw [e] at h; cases h
theorem hasT_yes {T : List File} {k : ByteArray} (h : hasT T k = true) : getT T k = some (getL T k) := by
  unfold hasT at h
  unfold getL
  cases e : getT T k with
  | none => rw [e] at h; cases h
  | some v => rfl
theorem tAdd_ok {M T1 : List File} {k : ByteArray} (h : (T1, (0 : Int)) = tAdd M k) : nameOk k = true ∧ hasT M k = false ∧ T1 = putT M k [] := by
  unfold tAdd at h
  split at h
  · injection h with _ h; cases h
  · rename_i h1
    split at h
    · injection h with _ h; cases h
    · rename_i h2
      injection h with h _
      exact ⟨by simpa using h1, by simpa using h2, h⟩
theorem tAdd_no {M T1 : List File} {k : ByteArray} {e : Int} (h : (T1, e) = tAdd M k) (he : ¬ e = 0) : T1 = M := by
  unfold tAdd at h
  split at h
  · injection h
  · split at h
    · injection h
    · injection h with _ h; exact absurd h he
theorem tRem_add {M : List File} {k : ByteArray} (hM : Sor M) (hh : hasT M k = false) : tRem (putT M k []) k = (M, 0) := by
  have h1 : getT (putT M k []) k = some [] := by rw [getT_put hM, if_pos rfl]
  have h2 : delT (putT M k []) k = M := getT_ext ((hM.put _ _).del _) hM fun u => by
    rw [getT_del (hM.put _ _), getT_put hM]
    by_cases e : u = k
    · subst e; rw [if_pos rfl, hasT_no hh]
    · rw [if_neg e, if_neg e]
  unfold tRem
  rw [if_neg (by simp [hasT, h1]), if_neg (by simp [getL, h1]), h2]
theorem tMove_ok {M T3 : List File} {a b : ByteArray} (h : (T3, (0 : Int)) = tMove M a b) : hasT M a = true ∧ nameOk b = true ∧ hasT M b = false ∧ T3 = delT (putT M b (getL M a)) a := by
  unfold tMove at h
  split at h
  · injection h with _ h; cases h
  · rename_i h1
    split at h
    · injection h with _ h; cases h
    · rename_i h2
      injection h with h _
      refine ⟨?_, ?_, by simpa using h2, h⟩
      · cases e : hasT M a with
        | true => rfl
        | false => exact absurd (.inl e) h1
      · cases e : nameOk b with
        | true => rfl
        | false => exact absurd (.inr e) h1
theorem tMove_no {M T3 : List File} {a b : ByteArray} {e : Int} (h : (T3, e) = tMove M a b) (he : ¬ e = 0) : T3 = M := by
  unfold tMove at h
  split at h
  · injection h
  · split at h
    · injection h
    · injection h with _ h; exact absurd h he
theorem moved_get {M : List File} {a b : ByteArray} (hM : Sor M) (ha : hasT M a = true) (hb : hasT M b = false) (u : ByteArray) : getT (delT (putT M b (getL M a)) a) u = if u = a then none else if u = b then some (getL M a) else getT M u := by
  rw [getT_del (hM.put _ _), getT_put hM]
theorem moved_ne {M : List File} {a b : ByteArray} (ha : hasT M a = true) (hb : hasT M b = false) : ¬ b = a := fun e => by
  subst e; rw [ha] at hb; cases hb
theorem move_back {M : List File} {a b : ByteArray} (hM : Sor M) (hn : nameOk a = true) (ha : hasT M a = true) (hb : hasT M b = false) : tMove (delT (putT M b (getL M a)) a) b a = (M, 0) := by
  have hS : Sor (delT (putT M b (getL M a)) a) := (hM.put _ _).del _
  have hne := moved_ne ha hb
  have h1 : getT (delT (putT M b (getL M a)) a) b = some (getL M a) := by rw [moved_get hM ha hb, if_neg hne, if_pos rfl]
  have h2 : getT (delT (putT M b (getL M a)) a) a = none := by rw [moved_get hM ha hb, if_pos rfl]
  have h3 : getL (delT (putT M b (getL M a)) a) b = getL M a := by rw [getL, h1]; rfl
  unfold tMove
  rw [if_neg (by simp [hasT, h1, hn]), if_neg (by simp [hasT, h2]), h3]
  have : delT (putT (delT (putT M b (getL M a)) a) a (getL M a)) b = M := getT_ext ((hS.put _ _).del _) hM fun u => by
    rw [getT_del (hS.put _ _), getT_put hS, moved_get hM ha hb]
    by_cases e : u = b
    · subst e; rw [if_pos rfl, hasT_no hb]
    · rw [if_neg e]
      by_cases e2 : u = a
      · subst e2; rw [if_pos rfl, hasT_yes ha]
      · rw [if_neg e2, if_neg e2, if_neg e]
  rw [this]
theorem moved_without {M : List File} {a b : ByteArray} (hM : Sor M) (ha : hasT M a = true) (hb : hasT M b = false) : delT (delT (putT M b (getL M a)) a) b = delT M a :=
  getT_ext (((hM.put _ _).del _).del _) (hM.del _) fun u => by
    rw [getT_del ((hM.put _ _).del _), moved_get hM ha hb, getT_del hM]
    by_cases e : u = b
    · subst e; rw [if_pos rfl, if_neg (moved_ne ha hb), hasT_no hb]
    · rw [if_neg e]
      by_cases e2 : u = a
      · rw [if_pos e2, if_pos e2]
      · rw [if_neg e2, if_neg e2, if_neg e]
def Good (T : List File) : Prop := ∀ x ∈ T, nameOk x.1 = true ∧ x.2.all lineOk = true
theorem Good.get {T : List File} (h : Good T) (k : ByteArray) : (getL T k).all lineOk = true := by
  unfold getL getT
  cases e : T.find? (fun x => decide (x.1 = k)) with
  | none => rfl
  | some x => simpa using (h x (List.mem_of_find?_eq_some e)).2
theorem Good.name {T : List File} (h : Good T) {k : ByteArray} (hk : hasT T k = true) : nameOk k = true := by
  obtain ⟨x, hx, rfl⟩ := hasT_iff.1 hk
  exact (h x hx).1
theorem Good.put {T : List File} (h : Good T) {k : ByteArray} {l : List ByteArray} (hk : nameOk k = true) (hl : l.all lineOk = true) : Good (putT T k l) := fun x hx => by
  rcases mem_putT.1 hx with rfl | ⟨h1, _⟩
  · exact ⟨hk, hl⟩
  · exact h x h1
theorem Good.del {T : List File} (h : Good T) (k : ByteArray) : Good (delT T k) := fun x hx => h x (mem_delT.1 hx).1
theorem doT_good {T : List File} (h : Good T) (o : TOp) : Good (doT T o).1 := by
  unfold doT
  split
  · unfold tAdd; split
    · exact h
    · rename_i h1; split
      · exact h
      · exact h.put (by simpa using h1) rfl
  · split
    · unfold tRem; split; exact h; split; exact h; exact h.del _
    · split
      · unfold rMove; split
        · exact h
        · rename_i h1; split
          · exact h
          · exact (h.del _).put (by
              cases e : nameOk o.to with
              | true => rfl
              | false => exact absurd (.inr e) h1) (h.get _)
      · split
        · unfold tPut; split
          · exact h
          · rename_i h1; split
            · exact h
            · rename_i h2
              exact h.put (h.name (by simpa using h1)) (by simpa using h2)
        · exact h
theorem madeT_good (l : List TOp) : Good (madeT l) := by
  unfold madeT
  have : ∀ (l : List TOp) (T : List File), Good T → Good (l.foldl (fun T o => (doT T o).1) T) := by
    intro l
    induction l with
    | nil => exact fun T h => h
    | cons o l ih => exact fun T h => ih _ (doT_good h o)
  exact this l [] fun x hx => by cases hx
end Go.Sx

end
section
set_option linter.unusedVariables false
set_option linter.unusedSimpArgs false
namespace Go.Sx
open Go Go.RowKit
section
variable {ro : Option Nat} {P : Program} {M0 F0 : Nat → Prop} {w0 : World} {n : Nm} {σ : List (Nat × Value)} {Ξ : List Xsn} {Γ : List Asn} {d : Nat} {ty : TypeId} {pos : String} {af : Array Edge}
variable {ops : Array Oper} {Q : Exit → Act → World → Prop} {S S' : Act → World → Prop}
theorem slen {A : Option Addr} {m m' c : Nat} (h : m = m') : Value.slice A m c = Value.slice A m' c := by rw [h]
theorem run_app0 {w : World} {t e ty' : TypeId} {i0 : TypeInfo} {A B : Option Addr} {k c c' : Nat} (ht : P.underlying t = some (.slice e)) (hi : P.info? e = some i0) (hc : k ≤ c) :
    (Builtin.append_ #[t, t] ty' #[.slice A k c, .slice B 0 c']).run P w = .ok (.slice A k c) w := by
  cases A <;> cases B <;> simp [Builtin.append_, run_underlying ht, sizeOf, typeInfo, hi, Builtin.lenOf, Builtin.firstCells, hc, loadCells, loadCellsFrom, storeCells]
theorem p_app0 {T : World → Prop} {x y : Operand} {t e : TypeId} {A B : Option Addr} {k c c' : Nat} (ht : P.underlying t = some (.slice e)) (hi : ∃ i0, P.info? e = some i0) (hc : k ≤ c) (hx : ev σ x = some (.slice A k c)) (hy : ev σ y = some (.slice B 0 c')) :
    Pu P n σ T ⟨some d, .call ⟨.builtin .append, #[x, y], #[t, t]⟩, ty, pos, af, none⟩ (.slice A k c) := fun a hs w _ => by
  obtain ⟨i0, hi⟩ := hi
  have h1 := hs.ev hx
  have h2 := hs.ev hy
  have hm : (#[x, y] : Array Operand).map a.eval = #[.slice A k c, .slice B 0 c'] := by simp [h1, h2]
  simp only [execOp, resolve, invoke, builtin, hm]
  simp [run_app0 ht hi hc]
theorem o_appX {α : Type} [Rp α] {x y : Operand} {t e : TypeId} {z : Value} {bytes : Nat} {A B : Option Addr} {c c' : Nat} {l m : List α} {i : Nat} {Ξ' : List Xsn}
    (ht : P.underlying t = some (.slice e)) (hinfo : (P.info? e).map (fun i => (i.zero, i.size, i.bytes)) = some (some z, Rp.size α, bytes)) (hzs : z.cells.size = Rp.size α) (hsz : 0 < Rp.size α) (hb0 : 0 < bytes)
    (hx : ev σ x = some (.slice A l.length c)) (hy : ev σ y = some (.slice B m.length c')) (hl : (l.length + m.length) * bytes ≤ 140737488355328) (hs : takeAll [i] Ξ = some ([row e A c l], Ξ')) (hg : Sub [slA B m] Γ) (hd : Nat.blt d n.n = true) :
    OpR P ⟨some d, .call ⟨.builtin .append, #[x, y], #[t, t]⟩, ty, pos, af, none⟩ (St M0 F0 w0 n σ Ξ Γ) (fun a w => ∃ q : Option Addr × Nat, St M0 F0 w0 n ((d, .slice q.1 (l ++ m).length q.2) :: σ) (row e q.1 q.2 (l ++ m) :: Ξ') Γ a w) := by
  by_cases hm : m = []
  · subst hm
    obtain ⟨i0, hi, _⟩ := info_parts hinfo
    intro K Q a w hS hK
    obtain ⟨hsl, Fs, hh⟩ := hS
    obtain ⟨Gs, Hs, hp, h1, h2⟩ := hh.ex.takeAll hs
    have hh' : Hp M0 F0 w0 (row e A c l :: Ξ') Γ (Gs ++ Hs) w := hh.re (fun b => (own_perm hp b).symm) (perm_pairwise hp hh.dis) (h1.append h2) hh.ga
    have hle : l.length ≤ c := rowLe (i := 0) At.z (⟨hsl, _, hh'⟩ : St M0 F0 w0 n σ (row e A c l :: Ξ') Γ a w)
    have := op (M0 := M0) (F0 := F0) (w0 := w0) (Ξ := row e A c l :: Ξ') (Γ := Γ) (p_app0 (P := P) (n := n) (σ := σ) (T := Any) (d := d) (ty := ty) (pos := pos) (af := af) ht ⟨i0, hi⟩ hle hx hy) hd
    refine this K Q a w ⟨hsl, _, hh'⟩ fun a' w' h => hK a' w' ⟨(A, c), ?_⟩
    simpa using h
  · exact o_app ht hinfo hzs hsz hb0 hx hy hl (fun h => absurd h hm) hs hg hd
theorem o_appF {α : Type} [Rp α] {x y : Operand} {t e : TypeId} {z : Value} {bytes : Nat} {A B : Option Addr} {c c' : Nat} {l m : List α}
    (ht : P.underlying t = some (.slice e)) (hinfo : (P.info? e).map (fun i => (i.zero, i.size, i.bytes)) = some (some z, Rp.size α, bytes)) (hzs : z.cells.size = Rp.size α) (hsz : 0 < Rp.size α) (hb0 : 0 < bytes) (hc : c = l.length)
    (hx : ev σ x = some (.slice A l.length c)) (hy : ev σ y = some (.slice B m.length c')) (hl : (l.length + m.length) * bytes ≤ 140737488355328) (hm : m ≠ []) (hg : Sub [slA A l, slA B m] Γ) (hd : Nat.blt d n.n = true) :
    OpR P ⟨some d, .call ⟨.builtin .append, #[x, y], #[t, t]⟩, ty, pos, af, none⟩ (St M0 F0 w0 n σ Ξ Γ) (fun a w => ∃ q : Option Addr × Nat, St M0 F0 w0 n ((d, .slice q.1 (l ++ m).length q.2) :: σ) (row e q.1 q.2 (l ++ m) :: Ξ) Γ a w) := by
  cases A with
  | some A => exact o_appf ht hinfo hzs hsz hb0 hc hx hy hl (List.length_pos_iff.2 hm) hg hd
  | none =>
    intro K Q a w hS hK
    have hmem := hg.mem (slA none l) (by simp)
    have hl0 : l = [] := by
      obtain ⟨_, Fs, hh⟩ := hS
      have h1 := hh.ga _ hmem
      match l, h1 with
      | [], _ => rfl
      | x :: l, h1 =>
        obtain ⟨b, o, y, hA, _⟩ := h1 0 x rfl
        cases hA
    subst hl0
    subst hc
    have := o_app (M0 := M0) (F0 := F0) (w0 := w0) (n := n) (σ := σ) (Ξ := row (α := α) e none 0 [] :: Ξ) (Γ := Γ) (Ξ' := Ξ) (is := [0]) (ty := ty) (pos := pos) (af := af) (A := none) (c := 0) (l := []) (m := m) ht hinfo hzs hsz hb0 hx hy hl (fun h => absurd h hm) rfl (Sub.mk fun p hp => hg.mem p (by simp at hp; simp [hp])) hd
    exact this K Q a w (nilRow e hS) hK
end

theorem lpure {ro : Option Nat} {P : Program} {ops : Array Oper} {Q : Exit → Act → World → Prop} {S : Act → World → Prop} {l : List Oper} {φ : Prop} (h : ∀ a w, S a w → φ) (k : φ → TrL ro P ops Q S l) : TrL ro P ops Q S l := fun a w hS => k (h a w hS) a w hS
theorem take_eq_at {l m : List ByteArray} {k j : Nat} (hk : k + j < l.length) (hj : j < m.length) (h : (l.drop k).take m.length = m) : l[k + j] = m[j] := by
  have h1 : ((l.drop k).take m.length)[j]? = m[j]? := by rw [h]
  rw [List.getElem?_take_of_lt hj, List.getElem?_drop, List.getElem?_eq_getElem hk, List.getElem?_eq_getElem hj] at h1
  injection h1
theorem take_step {l m : List ByteArray} {k j : Nat} (hk : k + j < l.length) (hj : j < m.length) (h : (l.drop k).take j = m.take j) (e : l[k + j] = m[j]) : (l.drop k).take (j + 1) = m.take (j + 1) := by
  have hd : j < (l.drop k).length := by rw [List.length_drop]; omega
  rw [List.take_succ_eq_append_getElem hd, List.take_succ_eq_append_getElem hj, h, List.getElem_drop, e]
theorem slen2 {A : Option Addr} {m m' c c' : Nat} (h : m = m') (k : c = c') : Value.slice A m c = Value.slice A m' c' := by rw [h, k]
theorem emem (p q : Prop) : (p ∧ q) ∨ (p ∧ ¬ q) ∨ ¬ p := by
  by_cases p <;> by_cases q <;> simp [*]
theorem subP {α : Type} [Rp α] {M0 F0 : Nat → Prop} {w0 : World} {n : Nm} {σ : List (Nat × Value)} {Ξ : List Xsn} {Γ : List Asn} {A : Option Addr} {l : List α} {a : Act} {w : World} (k : Nat) (hg : In (slA A l) Γ) (hk : k ≤ l.length) (h : St M0 F0 w0 n σ Ξ Γ a w) :
    St M0 F0 w0 n σ Ξ (slA (if k = 0 then A else A.map (·.add (0 * Rp.size α))) (l.take k) :: Γ) a w := by
  obtain ⟨hs, Fs, hh⟩ := h
  refine ⟨hs, Fs, { hh with ga := fun p hp => ?_ }⟩
  rcases List.mem_cons.1 hp with rfl | hp
  · by_cases hk0 : k = 0
    · subst hk0
      intro j x hj
      simp at hj
    · have := slA_sub (c := l.length) (hh.ga _ hg.mem) (Nat.zero_le k) hk (Nat.le_refl _)
      rw [if_neg (by omega), List.drop_zero, Nat.sub_zero] at this
      rw [if_neg hk0]
      exact this
  · exact hh.ga p hp
/-! Prims and trees. -/
def standsB (l : List ByteArray) (z : Int) (part : List ByteArray) : Bool := decide (0 ≤ z) && decide (z ≤ (l.length : Int)) && decide ((part.length : Int) ≤ (l.length : Int) - z) && decide ((l.drop z.toNat).take part.length = part)
def splT (l : List ByteArray) (z : Int) (old new : List ByteArray) : List ByteArray := if standsB l z old = true then l.take z.toNat ++ new ++ l.drop (z.toNat + old.length) else []
def fitT (q : List File × Int) : List File × Int := (q.1, if q.2 = 0 then 0 else 31)
def hunkT (T : List File) (p : Prim) : List File × Int :=
  if hasT T p.name = false ∨ standsB (getL T p.name) p.pos p.old = false then (T, 31) else fitT (tPut T p.name (splT (getL T p.name) p.pos p.old p.new))
def applyT (T : List File) (p : Prim) : List File × Int :=
  if p.right = false then (T, 30) else if p.kind = 0 then hunkT T p else if p.kind = 3 then fitT (tMove T p.name p.to) else if p.kind = 1 then fitT (tAdd T p.name) else fitT (tRem T p.name)
def rApplyT (T : List File) (p : Prim) : List File × Int :=
  if p.right = false then (T, 30)
  else if p.kind = 0 then (if hasT T p.name = true ∧ standsB (getL T p.name) p.pos p.old = true then (putT T p.name (splT (getL T p.name) p.pos p.old p.new), 0) else (T, 31))
  else if p.kind = 1 then (if hasT T p.name = false then (putT T p.name [], 0) else (T, 31))
  else if p.kind = 2 then (if hasT T p.name = true ∧ (getL T p.name).length = 0 then (delT T p.name, 0) else (T, 31))
  else if p.kind = 3 then (if hasT T p.name = true ∧ hasT T p.to = false then (putT (delT T p.name) p.to (getL T p.name), 0) else (T, 31))
  else (T, 31)
theorem stands_cases (l : List ByteArray) (z : Int) (part : List ByteArray) : (¬ 0 ≤ z) ∨ (0 ≤ z ∧ ¬ z ≤ (l.length : Int)) ∨ (0 ≤ z ∧ z ≤ (l.length : Int) ∧ ¬ (part.length : Int) ≤ (l.length : Int) - z) ∨ ∃ k : Nat, z = (k : Int) ∧ k + part.length ≤ l.length := by
  by_cases h1 : 0 ≤ z
  · by_cases h2 : z ≤ (l.length : Int)
    · by_cases h3 : (part.length : Int) ≤ (l.length : Int) - z
      · exact .inr (.inr (.inr ⟨z.toNat, by omega, by omega⟩))
      · exact .inr (.inr (.inl ⟨h1, h2, h3⟩))
    · exact .inr (.inl ⟨h1, h2⟩)
  · exact .inl h1
theorem standsB_nat {l part : List ByteArray} {k : Nat} (h : k + part.length ≤ l.length) : standsB l (k : Int) part = decide ((l.drop k).take part.length = part) := by
  unfold standsB
  rw [decide_eq_true (by omega), decide_eq_true (by omega), decide_eq_true (by omega)]
  simp
theorem standsB_yes {l part : List ByteArray} {z : Int} (h : standsB l z part = true) : ∃ k : Nat, z = (k : Int) ∧ k + part.length ≤ l.length ∧ (l.drop k).take part.length = part := by
  unfold standsB at h
  simp only [Bool.and_eq_true, decide_eq_true_eq] at h
  obtain ⟨⟨⟨h1, h2⟩, h3⟩, h4⟩ := h
  exact ⟨z.toNat, by omega, by omega, h4⟩
theorem splT_len {l old new : List ByteArray} {z : Int} : (splT l z old new).length ≤ l.length + new.length := by
  unfold splT
  split
  · rename_i h
    obtain ⟨k, rfl, h1, _⟩ := standsB_yes h
    simp only [List.length_append, List.length_take, List.length_drop, Int.toNat_natCast]
    omega
  · simp
theorem right_kind {p : Prim} (h : p.right = true) : p.kind = 0 ∨ p.kind = 1 ∨ p.kind = 2 ∨ p.kind = 3 := by
  unfold Prim.right at h
  rw [Bool.and_eq_true] at h
  have h2 := h.2
  by_cases h0 : p.kind = 0
  · exact .inl h0
  · rw [if_neg h0] at h2
    by_cases h3 : p.kind = 3
    · exact .inr (.inr (.inr h3))
    · rw [if_neg h3] at h2
      simp only [Bool.and_eq_true, Bool.or_eq_true, decide_eq_true_eq] at h2
      rcases h2.2 with h | h
      · exact .inr (.inl h)
      · exact .inr (.inr (.inl h))
theorem right_name {p : Prim} (h : p.right = true) : nameOk p.name = true := by
  unfold Prim.right at h
  rw [Bool.and_eq_true] at h
  exact h.1
theorem right_new {p : Prim} (h : p.right = true) (h0 : p.kind = 0) : p.new.all lineOk = true := by
  unfold Prim.right at h
  rw [Bool.and_eq_true, if_pos h0] at h
  simp only [Bool.and_eq_true] at h
  exact h.2.1.2
theorem right_to {p : Prim} (h : p.right = true) (h0 : p.kind = 3) : nameOk p.to = true := by
  unfold Prim.right at h
  rw [Bool.and_eq_true, if_neg (by omega), if_pos h0] at h
  simp only [Bool.and_eq_true] at h
  exact h.2.1.2
theorem splT_ok {l old new : List ByteArray} {z : Int} (hl : l.all lineOk = true) (hn : new.all lineOk = true) : (splT l z old new).all lineOk = true := by
  unfold splT
  split
  · rw [List.all_eq_true] at hl hn ⊢
    intro x hx
    rcases List.mem_append.1 hx with hx | hx
    · rcases List.mem_append.1 hx with hx | hx
      · exact hl x (List.mem_of_mem_take hx)
      · exact hn x hx
    · exact hl x (List.mem_of_mem_drop hx)
  · rfl
theorem apply_eq {T : List File} (hS : Sor T) (hG : Good T) (p : Prim) : applyT T p = rApplyT T p := by
  unfold applyT rApplyT
  by_cases hr : p.right = false
  · rw [if_pos hr, if_pos hr]
  · have hr' : p.right = true := by simpa using hr
    rw [if_neg hr, if_neg hr]
    rcases right_kind hr' with h | h | h | h
    · rw [if_pos h, if_pos h]
      unfold hunkT
      by_cases h1 : hasT T p.name = true
      · by_cases h2 : standsB (getL T p.name) p.pos p.old = true
        · rw [if_neg (by simp [h1, h2]), if_pos ⟨h1, h2⟩]
          unfold tPut
          have h4 := splT_ok (z := p.pos) (old := p.old) (hG.get p.name) (right_new hr' h)
          rw [if_neg (by simp [h1]), if_neg (by simp only [h4]; simp)]
          rfl
        · rw [if_pos (.inr (by simpa using h2)), if_neg (by simp [h2])]
      · rw [if_pos (.inl (by simpa using h1)), if_neg (by simp [h1])]
    · rw [if_neg (by omega), if_neg (by omega), if_pos h, if_neg (by omega), if_pos h]
      unfold tAdd
      have hn := right_name hr'
      rw [if_neg (by simp [hn])]
      by_cases h1 : hasT T p.name = true
      · rw [if_pos h1, if_neg (by simp [h1])]; rfl
      · rw [if_neg h1, if_pos (by simpa using h1)]; rfl
    · rw [if_neg (by omega), if_neg (by omega), if_neg (by omega), if_neg (by omega), if_neg (by omega), if_pos h]
      unfold tRem
      by_cases h1 : hasT T p.name = true
      · rw [if_neg (by simp [h1])]
        by_cases h2 : 0 < (getL T p.name).length
        · rw [if_pos h2, if_neg (by omega)]; rfl
        · rw [if_neg h2, if_pos ⟨h1, by omega⟩]; rfl
      · rw [if_pos (by simpa using h1), if_neg (by simp [h1])]; rfl
    · rw [if_neg (by omega), if_pos h, if_neg (by omega), if_neg (by omega), if_neg (by omega), if_pos h, move_eq hS]
      unfold rMove
      have hn := right_to hr' h
      by_cases h1 : hasT T p.name = true
      · rw [if_neg (by simp [h1, hn])]
        by_cases h2 : hasT T p.to = true
        · rw [if_pos h2, if_neg (by simp [h2])]; rfl
        · rw [if_neg h2, if_pos ⟨h1, by simpa using h2⟩]; rfl
      · rw [if_pos (.inl (by simpa using h1)), if_neg (by simp [h1])]; rfl
theorem rApply_sor {T : List File} (hS : Sor T) (p : Prim) : Sor (rApplyT T p).1 := by
  unfold rApplyT
  repeat' split
  all_goals first | exact hS | exact hS.put _ _ | exact hS.del _ | exact (hS.del _).put _ _
theorem rApply_good {T : List File} (hG : Good T) (p : Prim) : Good (rApplyT T p).1 := by
  unfold rApplyT
  by_cases hr : p.right = false
  · rw [if_pos hr]; exact hG
  · have hr' : p.right = true := by simpa using hr
    have hn := right_name hr'
    rw [if_neg hr]
    split
    · rename_i h
      split
      · exact hG.put hn (splT_ok (hG.get _) (right_new hr' h))
      · exact hG
    · split
      · split
        · exact hG.put hn rfl
        · exact hG
      · split
        · split
          · exact hG.del _
          · exact hG
        · split
          · rename_i h
            split
            · exact (hG.del _).put (right_to hr' h) (hG.get _)
            · exact hG
          · exact hG
end Go.Sx

end
section
set_option linter.unusedVariables false
set_option linter.unusedSimpArgs false
namespace Go.Sx
open Go Go.RowKit

/-! What undoes a prim, undoes it; how large trees grow. -/
theorem sortB_eq {l m : List ByteArray} (hp : l.Perm m) (hs : m.Pairwise fun a b => ofB a ≤ ofB b) : sortB l = m := by
  unfold sortB
  have e : (l.map ofB).mergeSort (fun x y => decide (x ≤ y)) = m.map ofB := by
    refine List.Perm.eq_of_pairwise (le := fun a b : List UInt8 => decide (a ≤ b) = true) (fun a b _ _ h1 h2 => List.le_antisymm (by simpa using h1) (by simpa using h2)) (List.pairwise_mergeSort ?_ ?_ _) ?_ ?_
    · intro a b c h1 h2
      simp only [decide_eq_true_eq] at *
      exact List.le_trans h1 h2
    · intro a b
      simp only [Bool.or_eq_true, decide_eq_true_eq]
      exact List.le_total a b
    · rw [List.pairwise_map]
      exact hs.imp fun {a b} hab => by simpa using hab
    · exact (List.mergeSort_perm _ _).trans (hp.map ofB)
  rw [e]
  simp [Function.comp_def, toB_ofB]
theorem sortB_names (p : Prim) : sortB p.names = refNames p := by
  refine sortB_eq (refNames_perm p).symm ?_
  unfold refNames
  split
  · split
    · rename_i h
      rw [less_kl] at h
      have h' : kl p.name p.to := by simpa using h
      simp only [List.pairwise_cons, List.mem_cons, List.mem_nil_iff, or_false, forall_eq, List.not_mem_nil, false_imp_iff, implies_true, List.Pairwise.nil, and_true]
      exact List.le_of_lt h'
    · rename_i h
      rw [less_kl] at h
      have h' : ¬ kl p.name p.to := by simpa using h
      simp only [List.pairwise_cons, List.mem_cons, List.mem_nil_iff, or_false, forall_eq, List.not_mem_nil, false_imp_iff, implies_true, List.Pairwise.nil, and_true]
      exact List.not_lt.1 h'
  · simp
theorem flip_fit' {p : Prim} (h : p.fit) : p.flip.fit := by
  obtain ⟨h1, h2, h3, h4, h5, h6⟩ := h
  unfold Prim.flip
  repeat' split
  all_goals exact ⟨by assumption, by assumption, by assumption, by assumption, by assumption, by assumption⟩
theorem fitP {p : Prim} (h : p.many ≤ 2000000) : p.fit := by
  unfold Prim.many at h
  exact ⟨by omega, by omega, by omega, by omega, fun s hs => by have := sizes_mem1 hs; omega, fun s hs => by have := sizes_mem1 hs; omega⟩
def Lmax (m : Nat) (T : List File) : Prop := ∀ x ∈ T, x.2.length ≤ m
theorem Lmax.get {m : Nat} {T : List File} (h : Lmax m T) (u : ByteArray) : (getL T u).length ≤ m := by
  unfold getL getT
  cases e : T.find? (fun x => decide (x.1 = u)) with
  | none => simp
  | some x => simpa using h x (List.mem_of_find?_eq_some e)
theorem Lmax.mono {m m' : Nat} {T : List File} (h : Lmax m T) (hm : m ≤ m') : Lmax m' T := fun x hx => Nat.le_trans (h x hx) hm
theorem Lmax.put {m : Nat} {T : List File} (h : Lmax m T) {k : ByteArray} {l : List ByteArray} (hl : l.length ≤ m) : Lmax m (putT T k l) := fun x hx => by
  rcases mem_putT.1 hx with rfl | ⟨h1, _⟩
  · exact hl
  · exact h x h1
theorem Lmax.del {m : Nat} {T : List File} (h : Lmax m T) (k : ByteArray) : Lmax m (delT T k) := fun x hx => h x (mem_delT.1 hx).1
theorem rApply_lmax {m : Nat} {T : List File} (h : Lmax m T) (p : Prim) : Lmax (m + p.new.length) (rApplyT T p).1 := by
  have h1 := h.mono (Nat.le_add_right m p.new.length)
  unfold rApplyT
  repeat' split
  all_goals first
    | exact h1
    | exact h1.del _
    | exact h1.put (Nat.le_trans splT_len (by have := h.get p.name; omega))
    | exact h1.put (by simp)
    | exact (h1.del _).put (by have := h.get p.name; omega)
theorem rApply_len (T : List File) (p : Prim) : (rApplyT T p).1.length ≤ T.length + 1 := by
  have hd : ∀ k, (delT T k).length ≤ T.length := fun k => List.length_filter_le _ _
  unfold rApplyT
  repeat' split
  all_goals first
    | exact Nat.le_succ _
    | exact putT_len _ _ _
    | exact Nat.le_trans (hd _) (Nat.le_succ _)
    | exact Nat.le_trans (putT_len _ _ _) (Nat.succ_le_succ (hd _))
theorem apply_err {T T1 : List File} {p : Prim} {e : Int} (h : (T1, e) = applyT T p) (he : ¬ e = 0) (hS : Sor T) (hG : Good T) : T1 = T := by
  rw [apply_eq hS hG] at h
  unfold rApplyT at h
  repeat' split at h
  all_goals first
    | (injection h with h _; done)
    | (injection h with h h2; first | exact h | exact absurd h2 he)
theorem tAdd_rem {M : List File} {k : ByteArray} (hM : Sor M) (hn : nameOk k = true) (hh : getT M k = some []) : tAdd (delT M k) k = (M, 0) := by
  have h1 : getT (delT M k) k = none := by rw [getT_del hM, if_pos rfl]
  unfold tAdd
  rw [if_neg (by simp [hn]), if_neg (by simp [hasT, h1])]
  have : putT (delT M k) k [] = M := getT_ext ((hM.del _).put _ _) hM fun u => by
    rw [getT_put (hM.del _), getT_del hM]
    by_cases e : u = k
    · subst e; rw [if_pos rfl, hh]
    · rw [if_neg e, if_neg e]
  rw [this]
theorem splT_yes {l old new : List ByteArray} {k : Nat} (h : standsB l (k : Int) old = true) : splT l (k : Int) old new = l.take k ++ new ++ l.drop (k + old.length) := by unfold splT; rw [if_pos h]; rfl
theorem spl_back {l old new : List ByteArray} {z : Int} (h : standsB l z old = true) : standsB (splT l z old new) z new = true ∧ splT (splT l z old new) z new old = l := by
  obtain ⟨k, rfl, h1, h2⟩ := standsB_yes h
  have e1 : splT l (k : Int) old new = l.take k ++ new ++ l.drop (k + old.length) := by unfold splT; rw [if_pos h]; rfl
  have hk : (l.take k).length = k := by rw [List.length_take]; omega
  have hlen : (l.take k ++ new ++ l.drop (k + old.length)).length = k + new.length + (l.length - (k + old.length)) := by rw [List.length_append, List.length_append, hk, List.length_drop]
  have e2 : (l.take k ++ new ++ l.drop (k + old.length)).drop k = new ++ l.drop (k + old.length) := by
    rw [List.append_assoc, List.drop_append, hk, List.drop_of_length_le (by omega), Nat.sub_self]; rfl
  have e3 : (l.take k ++ new ++ l.drop (k + old.length)).take k = l.take k := by
    rw [List.append_assoc, List.take_append, hk, List.take_of_length_le (by omega), Nat.sub_self]; simp
  have e4 : (l.take k ++ new ++ l.drop (k + old.length)).drop (k + new.length) = l.drop (k + old.length) := by
    rw [← List.drop_drop, e2, List.drop_append, List.drop_of_length_le (Nat.le_refl _), Nat.sub_self]; rfl
  have hs : standsB (splT l (k : Int) old new) (k : Int) new = true := by
    rw [e1, standsB_nat (by rw [hlen]; omega), e2]
    simp
  refine ⟨hs, ?_⟩
  have e5 := splT_yes (new := old) hs
  rw [e5, e1, e3, e4]
  have e6 : l = l.take k ++ ((l.drop k).take old.length ++ (l.drop k).drop old.length) := by rw [List.take_append_drop, List.take_append_drop]
  rw [h2, List.drop_drop] at e6
  rw [List.append_assoc]
  exact e6.symm
theorem put_put {T : List File} (h : Sor T) (k : ByteArray) (l m : List ByteArray) : putT (putT T k l) k m = putT T k m :=
  getT_ext ((h.put _ _).put _ _) (h.put _ _) fun u => by
    rw [getT_put (h.put _ _), getT_put h, getT_put h]
    by_cases e : u = k <;> simp [e]
theorem put_same {T : List File} (h : Sor T) {k : ByteArray} {l : List ByteArray} (hk : getT T k = some l) : putT T k l = T :=
  getT_ext (h.put _ _) h fun u => by
    rw [getT_put h]
    by_cases e : u = k
    · subst e; rw [if_pos rfl, hk]
    · rw [if_neg e]
theorem apply_back {T T1 : List File} {p : Prim} (hS : Sor T) (hG : Good T) (h : (T1, (0 : Int)) = applyT T p) : applyT T1 p.flip = (T, 0) := by
  rw [apply_eq hS hG] at h
  have hS1 : Sor T1 := by have := rApply_sor hS p; rw [← h] at this; exact this
  have hG1 : Good T1 := by have := rApply_good hG p; rw [← h] at this; exact this
  rw [apply_eq hS1 hG1]
  unfold rApplyT at h ⊢
  rw [flip_right]
  by_cases hr : p.right = false
  · rw [if_pos hr] at h; injection h with _ h; cases h
  · have hr' : p.right = true := by simpa using hr
    rw [if_neg hr] at h ⊢
    rcases right_kind hr' with k0 | k1 | k2 | k3
    · rw [if_pos k0] at h
      have hk : p.flip.kind = 0 := (flip_kind p).1.2 k0
      rw [if_pos hk]
      split at h
      · rename_i hj
        injection h with h _
        obtain ⟨hb1, hb2⟩ := spl_back (new := p.new) hj.2
        have hf := flip0 k0
        have hg : getT T1 p.name = some (splT (getL T p.name) p.pos p.old p.new) := by rw [h, getT_put hS, if_pos rfl]
        have hn : p.flip.name = p.name ∧ p.flip.pos = p.pos ∧ p.flip.old = p.new ∧ p.flip.new = p.old := by rw [hf]; exact ⟨rfl, rfl, rfl, rfl⟩
        rw [hn.1, hn.2.1, hn.2.2.1, hn.2.2.2, show getL T1 p.name = splT (getL T p.name) p.pos p.old p.new by rw [getL, hg]; rfl, if_pos ⟨by rw [hasT, hg]; rfl, hb1⟩, hb2, h, put_put hS, put_same hS (hasT_yes hj.1)]
      · injection h with _ h; cases h
    · rw [if_neg (by omega), if_pos k1] at h
      have hf : p.flip = { p with kind := 2 } := by rw [Prim.flip, if_neg (by omega), if_pos (.inl k1), k1]; rfl
      rw [hf]
      split at h
      · rename_i hj
        injection h with h _
        have hg : getT T1 p.name = some [] := by rw [h, getT_put hS, if_pos rfl]
        rw [if_neg (show ¬ (2 : Int) = 0 by decide), if_neg (show ¬ (2 : Int) = 1 by decide), if_pos rfl, if_pos ⟨by rw [hasT, hg]; rfl, by rw [getL, hg]; rfl⟩]
        have := tRem_add hS hj
        unfold tRem at this
        rw [← h, if_neg (by rw [hasT, hg]; simp), if_neg (by rw [getL, hg]; simp)] at this
        exact this
      · injection h with _ h; cases h
    · rw [if_neg (by omega), if_neg (by omega), if_pos k2] at h
      have hf : p.flip = { p with kind := 1 } := by rw [Prim.flip, if_neg (by omega), if_pos (.inr k2), k2]; rfl
      rw [hf]
      split at h
      · rename_i hj
        injection h with h _
        have h0 : getT T p.name = some [] := by rw [hasT_yes hj.1, List.eq_nil_of_length_eq_zero hj.2]
        have hg : getT T1 p.name = none := by rw [h, getT_del hS, if_pos rfl]
        rw [if_neg (show ¬ (1 : Int) = 0 by decide), if_pos rfl, if_pos (by rw [hasT, hg]; rfl)]
        have := tAdd_rem hS (right_name hr') h0
        unfold tAdd at this
        rw [← h, if_neg (by simp [right_name hr']), if_neg (by rw [hasT, hg]; simp)] at this
        exact this
      · injection h with _ h; cases h
    · rw [if_neg (by omega), if_neg (by omega), if_neg (by omega), if_pos k3] at h
      have hf := flip3 k3
      rw [hf]
      split at h
      · rename_i hj
        injection h with h _
        have hd : T1 = delT (putT T p.to (getL T p.name)) p.name := by
          have := move_eq hS p.name p.to
          unfold tMove rMove at this
          rw [if_neg (by simp [hj.1, right_to hr' k3]), if_neg (by simp [hj.2]), if_neg (by simp [hj.1, right_to hr' k3]), if_neg (by simp [hj.2])] at this
          injection this with this _
          rw [h, ← this]
        have hb := move_back hS (right_name hr') hj.1 hj.2
        rw [← hd, move_eq hS1] at hb
        unfold rMove at hb
        have hto : getT T1 p.to = some (getL T p.name) := by rw [hd, moved_get hS hj.1 hj.2, if_neg (moved_ne hj.1 hj.2), if_pos rfl]
        have hna : getT T1 p.name = none := by rw [hd, moved_get hS hj.1 hj.2, if_pos rfl]
        rw [if_neg (by simp [hasT, hto, right_name hr']), if_neg (by simp [hasT, hna])] at hb
        rw [if_neg (by show ¬ p.kind = 0; omega), if_neg (by show ¬ p.kind = 1; omega), if_neg (by show ¬ p.kind = 2; omega), if_pos (by exact k3), if_pos ⟨by rw [hasT, hto]; rfl, by rw [hasT, hna]; rfl⟩]
        exact hb
      · injection h with _ h; cases h
end Go.Sx

end
section
set_option linter.unusedVariables false
set_option linter.unusedSimpArgs false
namespace Go.Sx
open Go Go.RowKit
def appliedT (M : List File) (ps : List Prim) : List File := ps.foldl (fun T p => (rApplyT T p).1) M
theorem appliedT_succ {M : List File} {ps : List Prim} {k : Nat} (h : k < ps.length) : appliedT M (ps.take (k + 1)) = (rApplyT (appliedT M (ps.take k)) ps[k]).1 := by
  unfold appliedT
  rw [List.take_succ_eq_append_getElem h, List.foldl_append]; rfl
def news (ps : List Prim) : Nat := (ps.map fun p => p.new.length).sum
theorem news_le (ps : List Prim) : news ps ≤ many ps := by
  unfold news many
  have : (ps.map fun p => p.new.length).sum ≤ (ps.map Prim.many).sum := by
    induction ps with
    | nil => simp
    | cons p ps ih =>
      simp only [List.map_cons, List.sum_cons]
      have : p.new.length ≤ p.many := by unfold Prim.many; omega
      omega
  omega
theorem news_take (ps : List Prim) (k : Nat) : news (ps.take k) ≤ news ps := by
  have e : news ps = news (ps.take k) + news (ps.drop k) := by
    unfold news
    rw [← List.sum_append, ← List.map_append, List.take_append_drop]
  omega
structure AppInv (m n : Nat) (T : List File) : Prop where
  so : Sor T
  good : Good T
  lmax : Lmax m T
  len : T.length ≤ n
theorem AppInv.apply {m n : Nat} {T : List File} (h : AppInv m n T) (p : Prim) : AppInv (m + p.new.length) (n + 1) (rApplyT T p).1 :=
  ⟨rApply_sor h.so p, rApply_good h.good p, rApply_lmax h.lmax p, Nat.le_trans (rApply_len T p) (Nat.succ_le_succ h.len)⟩
theorem AppInv.made (l : List TOp) : AppInv (omany l) l.length (madeT l) := by
  have ht : Tok l.length (omany l) (madeT l) := madeT_tok fun o ho => omany_mem ho
  exact ⟨madeT_sor l, madeT_good l, fun x hx => (ht.fit x hx).1, ht.len⟩
theorem AppInv.applied {m n : Nat} {M : List File} (h : AppInv m n M) : ∀ (ps : List Prim), AppInv (m + news ps) (n + ps.length) (appliedT M ps) := by
  intro ps
  induction ps generalizing M m n with
  | nil => exact h
  | cons p ps ih =>
    have := ih (h.apply p)
    have e1 : m + p.new.length + news ps = m + news (p :: ps) := by unfold news; simp only [List.map_cons, List.sum_cons]; omega
    have e2 : n + 1 + ps.length = n + (p :: ps).length := by simp only [List.length_cons]; omega
    rw [e1, e2] at this
    exact this
theorem flip_new (p : Prim) : p.flip.new.length ≤ p.old.length + p.new.length := by
  unfold Prim.flip
  repeat' split
  all_goals simp
theorem bne_self' (e : Int) : (!decide (e = e)) = false := by simp
theorem many_one (p : Prim) : many [p] = 1 + p.many := by simp [many]
end Go.Sx

end
section
set_option linter.unusedVariables false
set_option linter.unusedSimpArgs false
namespace Go.Sx
open Go
/-! Prims that were swapped make of any tree what these made. -/
abbrev Tf := ByteArray → Option (List ByteArray)
def upd (f : Tf) (k : ByteArray) (v : Option (List ByteArray)) : Tf := fun x => if x = k then v else f x
theorem upd_at (f : Tf) (k : ByteArray) (v : Option (List ByteArray)) : upd f k v k = v := if_pos rfl
theorem upd_ne (f : Tf) {k x : ByteArray} (v : Option (List ByteArray)) (h : x ≠ k) : upd f k v x = f x := if_neg h
def Step (f : Tf) (p : Prim) (g : Tf) : Prop :=
  if p.kind = 0 then ∃ A B, f p.name = some (A ++ p.old ++ B) ∧ (A.length : Int) = p.pos ∧ g = upd f p.name (some (A ++ p.new ++ B))
  else if p.kind = 1 then f p.name = none ∧ g = upd f p.name (some [])
  else if p.kind = 2 then f p.name = some [] ∧ g = upd f p.name none
  else ∃ l, f p.name = some l ∧ f p.to = none ∧ g = upd (upd f p.name none) p.to (some l)
theorem step0 {f g : Tf} {p : Prim} (h : p.kind = 0) : Step f p g ↔ ∃ A B, f p.name = some (A ++ p.old ++ B) ∧ (A.length : Int) = p.pos ∧ g = upd f p.name (some (A ++ p.new ++ B)) := by
  unfold Step; rw [if_pos h]
theorem step1 {f g : Tf} {p : Prim} (h : p.kind = 1) : Step f p g ↔ f p.name = none ∧ g = upd f p.name (some []) := by
  unfold Step; rw [if_neg (by omega), if_pos h]
theorem step2 {f g : Tf} {p : Prim} (h : p.kind = 2) : Step f p g ↔ f p.name = some [] ∧ g = upd f p.name none := by
  unfold Step; rw [if_neg (by omega), if_neg (by omega), if_pos h]
theorem step3 {f g : Tf} {p : Prim} (h : p.kind = 3) : Step f p g ↔ ∃ l, f p.name = some l ∧ f p.to = none ∧ g = upd (upd f p.name none) p.to (some l) := by
  unfold Step; rw [if_neg (by omega), if_neg (by omega), if_neg (by omega)]
theorem names3 {p : Prim} (h : p.kind = 3) : p.names = [p.name, p.to] := by unfold Prim.names; rw [if_pos h]
theorem namesN {p : Prim} (h : p.kind ≠ 3) : p.names = [p.name] := by unfold Prim.names; rw [if_neg h]
theorem step_off {f g : Tf} {p : Prim} (hr : p.right = true) (h : Step f p g) {k : ByteArray} (hk : k ∉ p.names) : g k = f k := by
  rcases right_kind hr with h0 | h0 | h0 | h0
  · obtain ⟨A, B, _, _, rfl⟩ := (step0 h0).1 h
    rw [namesN (by omega)] at hk; exact upd_ne _ _ (by simpa using hk)
  · obtain ⟨_, rfl⟩ := (step1 h0).1 h
    rw [namesN (by omega)] at hk; exact upd_ne _ _ (by simpa using hk)
  · obtain ⟨_, rfl⟩ := (step2 h0).1 h
    rw [namesN (by omega)] at hk; exact upd_ne _ _ (by simpa using hk)
  · obtain ⟨l, _, _, rfl⟩ := (step3 h0).1 h
    rw [names3 h0] at hk; simp only [List.mem_cons, List.mem_nil_iff, or_false, not_or] at hk
    rw [upd_ne _ _ hk.2, upd_ne _ _ hk.1]
theorem step_local {f g f' g' : Tf} {p : Prim} (hr : p.right = true) (h : Step f p g) (h1 : ∀ k ∈ p.names, f' k = f k) (h2 : ∀ k ∈ p.names, g' k = g k) (h3 : ∀ k, k ∉ p.names → g' k = f' k) : Step f' p g' := by
  have hn : p.name ∈ p.names := by unfold Prim.names; split <;> simp
  rcases right_kind hr with h0 | h0 | h0 | h0
  · obtain ⟨A, B, e1, e2, e3⟩ := (step0 h0).1 h
    refine (step0 h0).2 ⟨A, B, by rw [h1 _ hn, e1], e2, funext fun k => ?_⟩
    by_cases e : k = p.name
    · subst e; rw [h2 _ hn, upd_at, e3, upd_at]
    · rw [upd_ne _ _ e, h3 _ (by rw [namesN (by omega)]; simpa using e)]
  · obtain ⟨e1, e3⟩ := (step1 h0).1 h
    refine (step1 h0).2 ⟨by rw [h1 _ hn, e1], funext fun k => ?_⟩
    by_cases e : k = p.name
    · subst e; rw [h2 _ hn, upd_at, e3, upd_at]
    · rw [upd_ne _ _ e, h3 _ (by rw [namesN (by omega)]; simpa using e)]
  · obtain ⟨e1, e3⟩ := (step2 h0).1 h
    refine (step2 h0).2 ⟨by rw [h1 _ hn, e1], funext fun k => ?_⟩
    by_cases e : k = p.name
    · subst e; rw [h2 _ hn, upd_at, e3, upd_at]
    · rw [upd_ne _ _ e, h3 _ (by rw [namesN (by omega)]; simpa using e)]
  · obtain ⟨l, e1, e2, e3⟩ := (step3 h0).1 h
    have ht : p.to ∈ p.names := by rw [names3 h0]; simp
    refine (step3 h0).2 ⟨l, by rw [h1 _ hn, e1], by rw [h1 _ ht, e2], funext fun k => ?_⟩
    by_cases e : k = p.to
    · subst e; rw [h2 _ ht, upd_at, e3, upd_at]
    · rw [upd_ne _ _ e]
      by_cases e' : k = p.name
      · subst e'; rw [h2 _ hn, upd_at, e3, upd_ne _ _ e, upd_at]
      · rw [upd_ne _ _ e', h3 _ (by rw [names3 h0]; simp [e, e'])]
open Classical in
theorem step_apart {f g h : Tf} {p q : Prim} (hp : p.right = true) (hq : q.right = true) (h1 : Step f p g) (h2 : Step g q h) (hd : ∀ k ∈ p.names, k ∉ q.names) : ∃ m, Step f q m ∧ Step m p h := by
  refine ⟨fun k => if k ∈ q.names then h k else f k, step_local hq h2 (fun k hk => ?_) (fun k hk => if_pos hk) (fun k hk => if_neg hk), step_local hp h1 (fun k hk => if_neg (hd k hk)) (fun k hk => step_off hq h2 (hd k hk)) fun k hk => ?_⟩
  · exact (step_off hp h1 (fun hk' => hd k hk' hk)).symm
  · by_cases e : k ∈ q.names
    · exact (if_pos e).symm
    · rw [if_neg e, step_off hq h2 e, step_off hp h1 hk]
theorem meets_no {p q : Prim} (h : p.meets q = false) : ∀ k ∈ p.names, k ∉ q.names := fun k h1 h2 => by
  have : p.meets q = true := by
    unfold Prim.meets
    rw [List.any_eq_true]
    exact ⟨k, h1, by rw [List.any_eq_true]; exact ⟨k, h2, by simp⟩⟩
  rw [h] at this; cases this
theorem split_at {A B C D : List ByteArray} {o : List ByteArray} (h : A ++ o ++ B = C ++ D) (hl : A.length + o.length ≤ C.length) : ∃ E, C = A ++ o ++ E ∧ B = E ++ D := by
  rw [List.append_eq_append_iff] at h
  rcases h with ⟨E, h1, h2⟩ | ⟨E, h1, h2⟩
  · exact ⟨E, h1, h2⟩
  · have : E = [] := by
      have := congrArg List.length h1
      simp only [List.length_append] at this
      exact List.eq_nil_of_length_eq_zero (by omega)
    subst this
    exact ⟨[], by simpa using h1.symm, by simpa using h2.symm⟩
theorem step_swap {f g h : Tf} {p q a b : Prim} (h1 : Step f p g) (h2 : Step g q h) (hs : swap p q = (a, b, true)) : ∃ m, Step f a m ∧ Step m b h := by
  obtain ⟨hs, hp, hq, ha, hb⟩ := swap_true hs
  rcases swapped_cases hs with ⟨h0, h3, hn, hc, ea, eb⟩ | ⟨h0, h3, hn, hc, ea, eb⟩ | ⟨h0, h3, hn, ea, eb⟩ | ⟨h0, h3, hn, ea, eb⟩ | ⟨h0, h3, hn, ht, ea, eb⟩ | ⟨h0, h3, hn, ea, eb⟩ | ⟨h0, h3, hn, ht, ea, eb⟩ | ⟨h4, h5, h3, hm, ea, eb⟩
  · rw [ea, eb]; obtain ⟨A, B, e1, e2, rfl⟩ := (step0 h0).1 h1
    obtain ⟨C, D, e3, e4, rfl⟩ := (step0 h3).1 h2
    rw [← hn, upd_at] at e3
    obtain ⟨E, rfl, rfl⟩ := split_at (D := q.old ++ D) (by simpa using (Option.some.inj e3)) (by omega)
    refine ⟨upd f p.name (some (A ++ p.old ++ E ++ q.new ++ D)), (step0 (p := { q with pos := q.pos - ((p.new.length : Int) - p.old.length) }) h3).2 ⟨A ++ p.old ++ E, D, ?_, ?_, ?_⟩, (step0 h0).2 ⟨A, E ++ q.new ++ D, ?_, e2, ?_⟩⟩
    · dsimp only; rw [← hn, e1]; simp
    · dsimp only; simp only [List.length_append] at e4 ⊢; omega
    · dsimp only; rw [← hn]
    · rw [upd_at]; simp
    · rw [← hn]; funext k
      by_cases e : k = p.name
      · subst e; rw [upd_at, upd_at]; simp
      · rw [upd_ne _ _ e, upd_ne _ _ e, upd_ne _ _ e, upd_ne _ _ e]
  · rw [ea, eb]; obtain ⟨A, B, e1, e2, rfl⟩ := (step0 h0).1 h1
    obtain ⟨C, D, e3, e4, rfl⟩ := (step0 h3).1 h2
    rw [← hn, upd_at] at e3
    obtain ⟨E, rfl, rfl⟩ := split_at (A := C) (o := q.old) (B := D) (C := A) (D := p.new ++ B) (by simpa using (Option.some.inj e3).symm) (by omega)
    refine ⟨upd f p.name (some (C ++ q.new ++ (E ++ p.old ++ B))), (step0 h3).2 ⟨C, E ++ p.old ++ B, ?_, e4, ?_⟩, (step0 (p := { p with pos := p.pos + ((q.new.length : Int) - q.old.length) }) h0).2 ⟨C ++ q.new ++ E, B, ?_, ?_, ?_⟩⟩
    · rw [← hn, e1]; simp
    · rw [← hn]
    · dsimp only; rw [upd_at]; simp
    · dsimp only; simp only [List.length_append] at e2 ⊢; omega
    · dsimp only; rw [← hn]; funext k
      by_cases e : k = p.name
      · subst e; rw [upd_at, upd_at]; simp
      · rw [upd_ne _ _ e, upd_ne _ _ e, upd_ne _ _ e, upd_ne _ _ e]
  · rw [ea, eb]; exact step_apart hp hq h1 h2 (fun k => by rw [namesN (by omega), namesN (by omega)]; simp only [List.mem_singleton]; rintro rfl; exact hn)
  · rw [ea, eb]; obtain ⟨A, B, e1, e2, rfl⟩ := (step0 h0).1 h1
    obtain ⟨l, e3, e4, rfl⟩ := (step3 h3).1 h2
    rw [← hn, upd_at] at e3
    obtain rfl := Option.some.inj e3
    have hne : q.to ≠ p.name := fun e => by rw [e, upd_at] at e4; cases e4
    rw [upd_ne _ _ hne] at e4
    refine ⟨upd (upd f q.name none) q.to (some (A ++ p.old ++ B)), (step3 h3).2 ⟨_, by rw [← hn, e1], e4, rfl⟩, (step0 (p := { p with name := q.to }) h0).2 ⟨A, B, ?_, e2, ?_⟩⟩
    · dsimp only; rw [upd_at]
    · dsimp only; rw [← hn]; funext k
      by_cases e : k = q.to
      · subst e; rw [upd_at, upd_at]
      · rw [upd_ne _ _ e, upd_ne _ _ e, upd_ne _ _ e]
        by_cases e' : k = p.name
        · subst e'; rw [upd_at, upd_at]
        · rw [upd_ne _ _ e', upd_ne _ _ e', upd_ne _ _ e']
  · rw [ea, eb]; exact step_apart hp hq h1 h2 (fun k => by rw [namesN (by omega), names3 h3]; simp only [List.mem_singleton, List.mem_cons, List.mem_nil_iff, or_false, not_or]; rintro rfl; exact ⟨hn, ht⟩)
  · rw [ea, eb]; obtain ⟨l, e1, e2, rfl⟩ := (step3 h0).1 h1
    obtain ⟨A, B, e3, e4, rfl⟩ := (step0 h3).1 h2
    rw [← hn, upd_at] at e3
    obtain rfl := Option.some.inj e3
    have hne : p.to ≠ p.name := fun e => by rw [e, e1] at e2; cases e2
    refine ⟨upd f p.name (some (A ++ q.new ++ B)), (step0 (p := { q with name := p.name }) h3).2 ⟨A, B, ?_, e4, rfl⟩, (step3 h0).2 ⟨_, upd_at _ _ _, ?_, ?_⟩⟩
    · dsimp only; rw [e1]
    · rw [upd_ne _ _ hne, e2]
    · rw [← hn]; funext k
      by_cases e : k = p.to
      · subst e; rw [upd_at, upd_at]
      · rw [upd_ne _ _ e, upd_ne _ _ e, upd_ne _ _ e]
        by_cases e' : k = p.name
        · subst e'; rw [upd_at, upd_at]
        · rw [upd_ne _ _ e', upd_ne _ _ e', upd_ne _ _ e']
  · rw [ea, eb]; exact step_apart hp hq h1 h2 (fun k => by rw [names3 h0, namesN (by omega)]; simp only [List.mem_singleton, List.mem_cons, List.mem_nil_iff, or_false]; rintro (rfl | rfl); exact ht; exact hn)
  · rw [ea, eb]; exact step_apart hp hq h1 h2 (meets_no hm)
/-! trees -/
theorem hasT_eq (T : List File) (k : ByteArray) : (hasT T k = true ↔ ∃ l, getT T k = some l) := by
  unfold hasT; rw [Option.isSome_iff_exists]
theorem splT_at {l A B o n : List ByteArray} {z : Int} (h : l = A ++ o ++ B) (hz : (A.length : Int) = z) : standsB l z o = true ∧ splT l z o n = A ++ n ++ B := by
  subst hz
  have h1 : standsB l (A.length : Int) o = true := by
    rw [standsB_nat (by rw [h]; simp only [List.length_append]; omega), h, decide_eq_true_eq, List.append_assoc, List.drop_left, List.take_left]
  refine ⟨h1, ?_⟩
  rw [splT_yes h1, h]
  rw [show (A ++ o ++ B).take A.length = A by rw [List.append_assoc, List.take_left], show (A ++ o ++ B).drop (A.length + o.length) = B by rw [← List.length_append, List.drop_left]]
theorem stands_at {l o : List ByteArray} {z : Int} (h : standsB l z o = true) : ∃ A B, l = A ++ o ++ B ∧ (A.length : Int) = z := by
  obtain ⟨k, rfl, h1, h2⟩ := standsB_yes h
  refine ⟨l.take k, (l.drop k).drop o.length, ?_, by rw [List.length_take]; omega⟩
  conv => rhs; rw [← h2]
  rw [List.append_assoc]
  have : ((l.drop k).take o.length).length = o.length := by rw [h2]
  rw [this, List.take_append_drop, List.take_append_drop]
def Ran (T : List File) (p : Prim) (U : List File) : Prop := rApplyT T p = (U, 0)
theorem ran_right {T U : List File} {p : Prim} (h : Ran T p U) : p.right = true := by
  unfold Ran rApplyT at h
  split at h
  · simp at h
  · rename_i h1; simpa using h1
theorem ran_sor {T U : List File} {p : Prim} (h : Ran T p U) (hS : Sor T) : Sor U := by
  have := rApply_sor hS p; rw [h] at this; exact this
theorem ran_step {T U : List File} {p : Prim} (hS : Sor T) (h : Ran T p U) : Step (getT T) p (getT U) := by
  have hr := ran_right h
  unfold Ran rApplyT at h
  rw [if_neg (by simp [hr])] at h
  rcases right_kind hr with h0 | h0 | h0 | h0
  · rw [if_pos h0] at h
    split at h
    · rename_i hc
      obtain ⟨A, B, e1, e2⟩ := stands_at hc.2
      simp only [Prod.mk.injEq, and_true] at h
      refine (step0 h0).2 ⟨A, B, by rw [← e1]; exact hasT_yes hc.1, e2, funext fun k => ?_⟩
      rw [← h, getT_put hS, (splT_at e1 e2).2]; rfl
    · simp at h
  · rw [if_neg (by omega), if_pos h0] at h
    split at h
    · rename_i hc
      simp only [Prod.mk.injEq, and_true] at h
      exact (step1 h0).2 ⟨hasT_no hc, funext fun k => by rw [← h, getT_put hS]; rfl⟩
    · simp at h
  · rw [if_neg (by omega), if_neg (by omega), if_pos h0] at h
    split at h
    · rename_i hc
      simp only [Prod.mk.injEq, and_true] at h
      exact (step2 h0).2 ⟨by rw [hasT_yes hc.1, List.eq_nil_of_length_eq_zero hc.2], funext fun k => by rw [← h, getT_del hS]; rfl⟩
    · simp at h
  · rw [if_neg (by omega), if_neg (by omega), if_neg (by omega), if_pos h0] at h
    split at h
    · rename_i hc
      simp only [Prod.mk.injEq, and_true] at h
      exact (step3 h0).2 ⟨_, hasT_yes hc.1, hasT_no hc.2, funext fun k => by rw [← h, getT_put (hS.del _), getT_del hS]; rfl⟩
    · simp at h
theorem step_ran {T : List File} {p : Prim} {g : Tf} (hS : Sor T) (hr : p.right = true) (h : Step (getT T) p g) : ∃ U, Ran T p U ∧ getT U = g := by
  unfold Ran rApplyT
  rw [if_neg (by simp [hr])]
  rcases right_kind hr with h0 | h0 | h0 | h0
  · obtain ⟨A, B, e1, e2, rfl⟩ := (step0 h0).1 h
    have hL : getL T p.name = A ++ p.old ++ B := by unfold getL; rw [e1]; rfl
    obtain ⟨s1, s2⟩ := splT_at (n := p.new) hL e2
    rw [if_pos h0, if_pos ⟨(hasT_eq _ _).2 ⟨_, e1⟩, s1⟩]
    exact ⟨_, rfl, funext fun k => by rw [getT_put hS, s2]; rfl⟩
  · obtain ⟨e1, rfl⟩ := (step1 h0).1 h
    rw [if_neg (by omega), if_pos h0, if_pos (by unfold hasT; rw [e1]; rfl)]
    exact ⟨_, rfl, funext fun k => by rw [getT_put hS]; rfl⟩
  · obtain ⟨e1, rfl⟩ := (step2 h0).1 h
    rw [if_neg (by omega), if_neg (by omega), if_pos h0, if_pos ⟨(hasT_eq _ _).2 ⟨_, e1⟩, by unfold getL; rw [e1]; rfl⟩]
    exact ⟨_, rfl, funext fun k => by rw [getT_del hS]; rfl⟩
  · obtain ⟨l, e1, e2, rfl⟩ := (step3 h0).1 h
    rw [if_neg (by omega), if_neg (by omega), if_neg (by omega), if_pos h0, if_pos ⟨(hasT_eq _ _).2 ⟨_, e1⟩, by unfold hasT; rw [e2]; rfl⟩]
    refine ⟨_, rfl, funext fun k => ?_⟩
    rw [getT_put (hS.del _), getT_del hS]
    unfold getL; rw [e1]; rfl
theorem ran_swap {T U V : List File} {p q a b : Prim} (hS : Sor T) (h1 : Ran T p U) (h2 : Ran U q V) (hs : swap p q = (a, b, true)) : ∃ M, Ran T a M ∧ Ran M b V := by
  obtain ⟨_, _, _, ha, hb⟩ := swap_true hs
  obtain ⟨m, s1, s2⟩ := step_swap (ran_step hS h1) (ran_step (ran_sor h1 hS) h2) hs
  obtain ⟨M, r1, rfl⟩ := step_ran hS ha s1
  obtain ⟨W, r2, e⟩ := step_ran (ran_sor r1 hS) hb s2
  obtain rfl := getT_ext (ran_sor r2 (ran_sor r1 hS)) (ran_sor h2 (ran_sor h1 hS)) fun k => congrFun e k
  exact ⟨M, r1, r2⟩
/-! rows -/
def Runs : List File → List Prim → List File → Prop
  | T, [], U => T = U
  | T, p :: l, U => ∃ M, Ran T p M ∧ Runs M l U
theorem runs_app {l m : List Prim} {U : List File} : ∀ {T : List File}, Runs T (l ++ m) U ↔ ∃ M, Runs T l M ∧ Runs M m U := by
  induction l with
  | nil => intro T; exact ⟨fun h => ⟨T, rfl, h⟩, fun ⟨M, e, h⟩ => by cases e; exact h⟩
  | cons p l ih =>
    intro T
    show (∃ M, Ran T p M ∧ Runs M (l ++ m) U) ↔ _
    constructor
    · rintro ⟨M, h1, h2⟩
      obtain ⟨N, h3, h4⟩ := ih.1 h2
      exact ⟨N, ⟨M, h1, h3⟩, h4⟩
    · rintro ⟨N, ⟨M, h1, h3⟩, h4⟩
      exact ⟨M, h1, ih.2 ⟨N, h3, h4⟩⟩
theorem runs_sor {l : List Prim} {U : List File} : ∀ {T : List File}, Runs T l U → Sor T → Sor U := by
  induction l with
  | nil => intro T h hS; cases h; exact hS
  | cons p l ih => rintro T ⟨M, h1, h2⟩ hS; exact ih h2 (ran_sor h1 hS)
theorem runs_past {m : List Prim} {U : List File} : ∀ {T : List File} {p q : Prim} {f : List Prim}, Sor T → Runs T (p :: m) U → past1 p m = some (f, q) → Runs T (f ++ [q]) U := by
  induction m with
  | nil =>
    intro T p q f hS h hp
    obtain ⟨rfl, rfl⟩ := pas_nil.1 hp
    exact h
  | cons x m ih =>
    rintro T p q f hS ⟨M, h1, N, h2, h3⟩ hp
    obtain ⟨a, b, f', e1, e2, rfl⟩ := pas_cons.1 hp
    obtain ⟨K, r1, r2⟩ := ran_swap hS h1 h2 e1
    exact ⟨K, r1, ih (ran_sor r1 hS) ⟨N, r2, h3⟩ e2⟩
theorem runs_swapR : ∀ {l m s f t : List Prim} {T U : List File}, Sor T → Runs T (l.reverse ++ m ++ s) U → swapR l m s = some (f, t) → Runs T (f ++ t) U
  | [], m, s, f, t, T, U, hS, h, e => by
    simp only [swapR, Option.some.injEq, Prod.mk.injEq] at e
    obtain ⟨rfl, rfl⟩ := e
    simpa using h
  | p :: l, m, s, f, t, T, U, hS, h, e => by
    rw [swapR, Option.bind_eq_some_iff] at e
    obtain ⟨⟨n, q⟩, e1, e2⟩ := e
    refine runs_swapR hS ?_ e2
    rw [List.reverse_cons, List.append_assoc, List.append_assoc, runs_app] at h
    obtain ⟨M, r1, r2⟩ := h
    rw [show [p] ++ (m ++ s) = (p :: m) ++ s by rfl, runs_app] at r2
    obtain ⟨N, r3, r4⟩ := r2
    rw [List.append_assoc, runs_app]
    refine ⟨M, r1, ?_⟩
    have := runs_past (runs_sor r1 hS) r3 e1
    rw [show n ++ q :: s = (n ++ [q]) ++ s by simp, runs_app]
    exact ⟨N, this, r4⟩
theorem runs_swapL {l m f s : List Prim} {T U : List File} (hS : Sor T) (h : Runs T (l ++ m) U) (e : swapL l m = some (f, s)) : Runs T (f ++ s) U :=
  runs_swapR (l := l.reverse) hS (by simpa using h) e
theorem ran_back {T U : List File} {p : Prim} (hS : Sor T) (hG : Good T) (h : Ran T p U) : Ran U p.flip T := by
  have h1 : (U, (0 : Int)) = applyT T p := by rw [apply_eq hS hG]; exact h.symm
  have hG1 : Good U := by have := rApply_good hG p; rw [h] at this; exact this
  have := apply_back hS hG h1
  rw [apply_eq (ran_sor h hS) hG1] at this
  exact this
theorem runs_good {l : List Prim} {U : List File} : ∀ {T : List File}, Runs T l U → Good T → Good U := by
  induction l with
  | nil => intro T h hG; cases h; exact hG
  | cons p l ih => rintro T ⟨M, h1, h2⟩ hG; exact ih h2 (by have := rApply_good hG p; rw [h1] at this; exact this)
theorem invL_cons (p : Prim) (l : List Prim) : invL (p :: l) = invL l ++ [p.flip] := by simp [invL]
theorem runs_back {l : List Prim} {U : List File} : ∀ {T : List File}, Sor T → Good T → Runs T l U → Runs U (invL l) T := by
  induction l with
  | nil => intro T _ _ h; cases h; exact rfl
  | cons p l ih =>
    rintro T hS hG ⟨M, h1, h2⟩
    rw [invL_cons, runs_app]
    exact ⟨M, ih (ran_sor h1 hS) (by have := rApply_good hG p; rw [h1] at this; exact this) h2, T, ran_back hS hG h1, rfl⟩
end Go.Sx

end
section
set_option linter.unusedVariables false
namespace Go.Proofs.YtdbiillompeclaaGreatDoor.X
open Go Go.RowKit Go.Proofs Go.Sx
structure Patch where
  id : Int
  note : ByteArray
  deps : List Int
  l : List Prim
  deriving DecidableEq
instance instRpPatch : Rp Patch where
  Lay := (Option Addr × Nat) × (Option Addr × Nat)
  size := 4
  enc p y := [.int .i64 p.id, .string p.note, .slice y.1.1 p.deps.length y.1.2, .slice y.2.1 p.l.length y.2.2]
  len _ _ := rfl
  one _ _ v hv := by
    simp only [List.mem_cons, List.mem_nil_iff, or_false] at hv
    rcases hv with rfl | rfl | rfl | rfl <;> rfl
  asn p y := [slA y.1.1 p.deps, slA y.2.1 p.l]
def Patch.zero : Patch := ⟨0, ⟨#[]⟩, [], []⟩
structure Patch.fit (p : Patch) : Prop where
  nb : p.note.size ≤ 2000000
  dl : p.deps.length ≤ 2000000
  ll : p.l.length ≤ 2000000
  lf : ∀ x ∈ p.l, x.fit
theorem pzero_fit : Patch.zero.fit := ⟨by decide, by decide, by decide, fun x h => by cases h⟩
theorem slA_none {α : Type} [Rp α] (M : Nat → Prop) (w : World) : (slA none ([] : List α)).p M w := by intro j x hj; simp at hj
def depsOk (id : Int) : Int → List Int → Bool
  | _, [] => true
  | last, n :: r => !(decide (n ≤ last) || decide (1000000000 < n) || decide (n = id)) && depsOk id n r
def Patch.right (p : Patch) : Bool := decide (1 ≤ p.id) && decide (p.id ≤ 1000000000) && lineOk p.note && decide (p.deps.length ≤ 8) && depsOk p.id 0 p.deps && decide (1 ≤ p.l.length) && decide (p.l.length ≤ 24) && p.l.all Prim.right
def pmay (p q : Patch) : Bool := p.right && q.right && !decide (p.id = q.id) && !(q.deps.any fun n => decide (n = p.id)) && !(p.deps.any fun n => decide (n = q.id))
def pswap (p q : Patch) : Patch × Patch × Bool := if (pmay p q && (swT p.l q.l).2.2) = true then ({ q with l := (swT p.l q.l).1 }, { p with l := (swT p.l q.l).2.1 }, true) else (Patch.zero, Patch.zero, false)
theorem swT_ok {l m f s : List Prim} (h : (f, s, true) = swT l m) (hl : ∀ x ∈ l, x.fit) (hm : ∀ x ∈ m, x.fit) : f.length = m.length ∧ s.length = l.length ∧ (∀ x ∈ f, x.fit) ∧ ∀ x ∈ s, x.fit := by
  have key : ∀ (j : Nat) (f1 s1 : List Prim), j ≤ l.length → SI l m j f1 s1 → SI l m l.length f s := by
    intro j
    induction hn : l.length - j generalizing j with
    | zero =>
      intro f1 s1 hj hI
      have hjl : j = l.length := by omega
      have := hI.done hjl
      rw [this] at h
      simp only [Prod.mk.injEq, and_true] at h
      obtain ⟨rfl, rfl⟩ := h
      rw [← hjl]; exact hI
    | succ n ih =>
      intro f1 s1 hj hI
      have hk : (l.length - 1 - j) + j + 1 = l.length := by omega
      have hlt : l.length - 1 - j < l.length := by omega
      cases hp : pastT (l[l.length - 1 - j]) f1 with
      | mk f2 r =>
        obtain ⟨q, b⟩ := r
        cases b with
        | true => exact ih (j + 1) (by omega) f2 (q :: s1) (by omega) (hI.step hk hl hp.symm)
        | false =>
          have := hI.stop hk hp.symm
          rw [this] at h
          simp at h
  have hI := key 0 m [] (Nat.zero_le _) (SI.start hm)
  exact ⟨hI.fl, hI.sl, hI.ff, hI.fs⟩
theorem pswap_fit {p q : Patch} (hp : p.fit) (hq : q.fit) : (pswap p q).1.fit ∧ (pswap p q).2.1.fit := by
  unfold pswap
  split
  · rename_i h
    simp only [Bool.and_eq_true] at h
    have hs : ((swT p.l q.l).1, (swT p.l q.l).2.1, true) = swT p.l q.l := by rw [← h.2]
    obtain ⟨h1, h2, h3, h4⟩ := swT_ok hs hp.lf hq.lf
    exact ⟨⟨hq.nb, hq.dl, by dsimp only; rw [h1]; exact hq.ll, h3⟩, ⟨hp.nb, hp.dl, by dsimp only; rw [h2]; exact hp.ll, h4⟩⟩
  · exact ⟨pzero_fit, pzero_fit⟩
def ppastR : List Patch → Patch → List Patch → Option (Patch × List Patch)
  | [], q, rest => some (q, rest)
  | x :: r, q, rest => if (pswap x q).2.2 = true then ppastR r (pswap x q).1 ((pswap x q).2.1 :: rest) else none
def ppast (l : List Patch) (q : Patch) : Patch × List Patch × Bool := match ppastR l.reverse q [] with
  | some r => (r.1, r.2, true)
  | none => (Patch.zero, [], false)
def groupF : List Patch → List Patch → List Patch → List Patch × List Patch
  | [], g, r => (g, r)
  | q :: l, g, r => if (ppast g q).2.2 = true then groupF l (ppast g q).2.1 (r ++ [(ppast g q).1]) else groupF l (g ++ [q]) r
def group : List Patch → List Patch × List Patch
  | [] => ([], [])
  | p :: l => groupF l [p] []
structure PP (l : List Patch) (q0 : Patch) (j : Nat) (q : Patch) (rest : List Patch) : Prop where
  eq : ppastR l.reverse q0 [] = ppastR (l.reverse.drop j) q rest
  len : rest.length = j
  fq : q.fit
  fr : ∀ x ∈ rest, x.fit
theorem PP.start {l : List Patch} {q : Patch} (h : q.fit) : PP l q 0 q [] := ⟨rfl, rfl, h, by simp⟩
theorem PP.step {l rest : List Patch} {q0 q a b : Patch} {j k : Nat} (h : PP l q0 j q rest) (hk : k + j + 1 = l.length) (hl : ∀ x ∈ l, x.fit) (hp : (a, b, true) = pswap l[k] q) : PP l q0 (j + 1) a (b :: rest) := by
  have hf := pswap_fit (hl _ (List.getElem_mem (show k < l.length by omega))) h.fq
  rw [← hp] at hf
  refine ⟨?_, by simp [h.len], hf.1, fun x hx => ?_⟩
  · rw [h.eq, rev_drop hk, ppastR, ← hp]; rfl
  · rcases List.mem_cons.1 hx with rfl | hx
    · exact hf.2
    · exact h.fr x hx
theorem PP.stop {l rest : List Patch} {q0 q a b : Patch} {j k : Nat} (h : PP l q0 j q rest) (hk : k + j + 1 = l.length) (hp : (a, b, false) = pswap l[k] q) : ppast l q0 = (Patch.zero, [], false) := by
  unfold ppast
  rw [h.eq, rev_drop hk, ppastR, ← hp]; rfl
theorem PP.done {l rest : List Patch} {q0 q : Patch} {j : Nat} (h : PP l q0 j q rest) (hj : j = l.length) : ppast l q0 = (q, rest, true) := by
  unfold ppast
  rw [h.eq, List.drop_eq_nil_of_le (by simp; omega), ppastR]
theorem ppast_ok {l rest : List Patch} {q0 q : Patch} (h : (q, rest, true) = ppast l q0) (hl : ∀ x ∈ l, x.fit) (hq : q0.fit) : rest.length = l.length ∧ q.fit ∧ ∀ x ∈ rest, x.fit := by
  have key : ∀ (j : Nat) (q1 : Patch) (r1 : List Patch), j ≤ l.length → PP l q0 j q1 r1 → PP l q0 l.length q rest := by
    intro j
    induction hn : l.length - j generalizing j with
    | zero =>
      intro f1 s1 hj hI
      have hjl : j = l.length := by omega
      have := hI.done hjl
      rw [this] at h
      simp only [Prod.mk.injEq, and_true] at h
      obtain ⟨rfl, rfl⟩ := h
      rw [← hjl]; exact hI
    | succ n ih =>
      intro f1 s1 hj hI
      have hk : (l.length - 1 - j) + j + 1 = l.length := by omega
      have hlt : l.length - 1 - j < l.length := by omega
      cases hp : pswap (l[l.length - 1 - j]) f1 with
      | mk f2 r =>
        obtain ⟨q, b⟩ := r
        cases b with
        | true => exact ih (j + 1) (by omega) f2 (q :: s1) (by omega) (hI.step hk hl hp.symm)
        | false =>
          have := hI.stop hk hp.symm
          rw [this] at h
          simp at h
  have hI := key 0 q0 [] (Nat.zero_le _) (PP.start hq)
  exact ⟨hI.len, hI.fq, hI.fr⟩
structure GI (l : List Patch) (k : Nat) (g r : List Patch) : Prop where
  eq : group l = if k = 0 then group l else groupF (l.drop k) g r
  zero : k = 0 → g = [] ∧ r = []
  len : g.length + r.length = k
  fg : ∀ x ∈ g, x.fit
  fr : ∀ x ∈ r, x.fit
theorem GI.start (l : List Patch) : GI l 0 [] [] := ⟨by simp, fun _ => ⟨rfl, rfl⟩, rfl, by simp, by simp⟩
theorem GI.first {l : List Patch} (h0 : 0 < l.length) (hl : ∀ x ∈ l, x.fit) : GI l 1 [l[0]] [] := by
  refine ⟨?_, fun h => by omega, rfl, fun x hx => ?_, by simp⟩
  · match l, h0 with
    | p :: l, _ => simp [group]
  · simp at hx; subst hx; exact hl _ (List.getElem_mem _)
theorem GI.yes {l g r rest : List Patch} {q : Patch} {k : Nat} (h : GI l k g r) (hk : k < l.length) (h0 : k ≠ 0) (hl : ∀ x ∈ l, x.fit) (hp : (q, rest, true) = ppast g l[k]) : GI l (k + 1) rest (r ++ [q]) := by
  obtain ⟨h1, h2, h3⟩ := ppast_ok hp h.fg (hl _ (List.getElem_mem hk))
  refine ⟨?_, fun h => by omega, by simp [h1]; have := h.len; omega, h3, fun x hx => ?_⟩
  · have := h.eq
    rw [if_neg h0, List.drop_eq_getElem_cons hk, groupF, ← hp] at this
    simpa using this
  · rcases List.mem_append.1 hx with hx | hx
    · exact h.fr x hx
    · simp at hx; subst hx; exact h2
theorem GI.no {l g r rest : List Patch} {q : Patch} {k : Nat} (h : GI l k g r) (hk : k < l.length) (hl : ∀ x ∈ l, x.fit) (hp : k = 0 ∨ (q, rest, false) = ppast g l[k]) : GI l (k + 1) (g ++ [l[k]]) r := by
  by_cases h0 : k = 0
  · subst h0
    obtain ⟨rfl, rfl⟩ := h.zero rfl
    exact GI.first hk hl
  · have hp := hp.resolve_left h0
    refine ⟨?_, fun h => by omega, by simp; have := h.len; omega, fun x hx => ?_, h.fr⟩
    · have := h.eq
      rw [if_neg h0, List.drop_eq_getElem_cons hk, groupF, ← hp] at this
      simpa using this
    · rcases List.mem_append.1 hx with hx | hx
      · exact h.fg x hx
      · simp at hx; subst hx; exact hl _ (List.getElem_mem _)
theorem GI.done {l g r : List Patch} {k : Nat} (h : GI l k g r) (hk : ¬ k < l.length) : group l = (g, r) := by
  by_cases h0 : k = 0
  · subst h0
    have : l = [] := List.eq_nil_of_length_eq_zero (by omega)
    obtain ⟨rfl, rfl⟩ := h.zero rfl
    rw [this]; rfl
  · have := h.eq
    rw [if_neg h0, List.drop_eq_nil_of_le (by omega), groupF] at this
    exact this
end Go.Proofs.YtdbiillompeclaaGreatDoor.X

end
section
set_option linter.unusedVariables false
namespace Go.Proofs.YtdbiillompeclaaGreatDoor.X
open Go Go.RowKit Go.Proofs Go.Sx
/-! Swapped again, both rows are as they were: a grid read by columns. -/
theorem grid_nil {l f s : List Prim} (h : Grid l [] f s) : f = [] ∧ s = l := by
  generalize hm : ([] : List Prim) = m at h
  induction h with
  | nil => subst hm; exact ⟨rfl, rfl⟩
  | @row l p m n q f s hp hg ih =>
    subst hm
    obtain ⟨rfl, rfl⟩ := pas_nil.1 hp
    obtain ⟨rfl, rfl⟩ := ih rfl
    exact ⟨rfl, rfl⟩
theorem grid_col {l M F s : List Prim} (h : Grid l M F s) : ∀ {m : List Prim} {q : Prim}, M = m ++ [q] → ∃ f x t, F = f ++ [x] ∧ Grid l m f t ∧ Pas x s t q := by
  induction h with
  | @nil M =>
    intro m q hM
    subst hM
    exact ⟨m, q, [], rfl, .nil, pas_nil.2 ⟨rfl, rfl⟩⟩
  | @row l p M N z F s hp hg ih =>
    intro m q hM
    subst hM
    obtain ⟨n, N2, b, h1, h2, rfl⟩ := pas_app.1 hp
    obtain ⟨q', b', f', h3, h4, rfl⟩ := pas_cons.1 h2
    obtain ⟨rfl, rfl⟩ := pas_nil.1 h4
    obtain ⟨f, x, t, rfl, h5, h6⟩ := ih rfl
    exact ⟨f, x, t ++ [b], rfl, .row h1 h5, pas_app.2 ⟨t, [b], q', h6, pas_cons.2 ⟨b, q, [], swap_back h3, pas_nil.2 ⟨rfl, rfl⟩, rfl⟩, rfl⟩⟩
theorem grid_turn : ∀ (n : Nat) {l m f s : List Prim}, m.length = n → Grid l m f s → Grid f s l m
  | 0, l, m, f, s, hn, h => by
    have : m = [] := List.eq_nil_of_length_eq_zero hn
    subst this
    obtain ⟨rfl, rfl⟩ := grid_nil h
    exact .nil
  | n + 1, l, M, F, s, hn, h => by
    obtain ⟨m, q, rfl⟩ : ∃ m q, M = m ++ [q] := ⟨M.dropLast, M.getLast (by intro e; rw [e] at hn; simp at hn), (List.dropLast_concat_getLast _).symm⟩
    obtain ⟨f, x, t, rfl, h1, h2⟩ := grid_col h rfl
    exact .row h2 (grid_turn n (by simpa using hn) h1)
theorem swapR_grid : ∀ (r : List Prim) {m f S second : List Prim}, swapR r m second = some (f, S) ↔ ∃ s, Grid r.reverse m f s ∧ S = s ++ second
  | [], m, f, S, second => by
    simp only [swapR, Option.some.injEq, Prod.mk.injEq, List.reverse_nil]
    constructor
    · rintro ⟨rfl, rfl⟩; exact ⟨[], .nil, rfl⟩
    · rintro ⟨s, h, rfl⟩
      generalize hl : ([] : List Prim) = l at h
      cases h with
      | nil => exact ⟨rfl, rfl⟩
      | @row l' p m n q f s hp hg => simp at hl
  | p :: r, m, f, S, second => by
    rw [swapR, Option.bind_eq_some_iff]
    constructor
    · rintro ⟨⟨n, q⟩, h1, h2⟩
      obtain ⟨s, h3, rfl⟩ := (swapR_grid r).1 h2
      refine ⟨s ++ [q], ?_, by simp⟩
      rw [List.reverse_cons]
      exact .row h1 h3
    · rintro ⟨s, h, rfl⟩
      rw [List.reverse_cons] at h
      generalize hl : r.reverse ++ [p] = l at h
      cases h with
      | nil => simp at hl
      | @row l' p' m n q f s' hp hg =>
        obtain ⟨rfl, h5⟩ := List.append_inj' hl rfl
        obtain rfl : p = p' := by simpa using h5
        exact ⟨(n, q), hp, (swapR_grid r).2 ⟨s', hg, by simp⟩⟩
theorem swapL_grid {l m f s : List Prim} : swapL l m = some (f, s) ↔ Grid l m f s := by
  unfold swapL
  rw [swapR_grid]
  simp only [List.reverse_reverse, List.append_nil]
  constructor
  · rintro ⟨s', h, rfl⟩; exact h
  · intro h; exact ⟨s, h, rfl⟩
theorem swT_true {l m f s : List Prim} : (f, s, true) = swT l m ↔ swapL l m = some (f, s) := by
  unfold swT
  cases h : swapL l m with
  | none => simp
  | some r => obtain ⟨r1, r2⟩ := r; simp [eq_comm]
theorem swT_back {l m f s : List Prim} (h : (f, s, true) = swT l m) : (l, m, true) = swT f s :=
  swT_true.2 (swapL_grid.2 (grid_turn _ rfl (swapL_grid.1 (swT_true.1 h))))
theorem pas_right : ∀ {m : List Prim} {p q : Prim} {f : List Prim}, Pas p m f q → p.right = true → q.right = true ∧ f.all Prim.right = true
  | [], p, q, f, h, hp => by
    obtain ⟨rfl, rfl⟩ := pas_nil.1 h
    exact ⟨hp, rfl⟩
  | x :: m, p, q, f, h, hp => by
    obtain ⟨a, b, f', h1, h2, rfl⟩ := pas_cons.1 h
    obtain ⟨_, _, _, h3, h4⟩ := swap_true h1
    obtain ⟨h5, h6⟩ := pas_right h2 h4
    exact ⟨h5, by simp [h3, h6]⟩
theorem grid_right {l m f s : List Prim} (h : Grid l m f s) : l.all Prim.right = true → m.all Prim.right = true → f.all Prim.right = true ∧ s.all Prim.right = true := by
  induction h with
  | nil => exact fun _ h => ⟨h, rfl⟩
  | @row l p m n q f s hp hg ih =>
    intro hl hm
    rw [List.all_append, Bool.and_eq_true] at hl
    have hp1 : p.right = true := by simpa using hl.2
    obtain ⟨h1, h2⟩ := pas_right hp hp1
    obtain ⟨h3, h4⟩ := ih hl.1 h2
    exact ⟨h3, by rw [List.all_append, h4]; simp [h1]⟩
theorem grid_len {l m f s : List Prim} (h : Grid l m f s) : f.length = m.length ∧ s.length = l.length := by
  induction h with
  | nil => exact ⟨rfl, rfl⟩
  | @row l p m n q f s hp hg ih =>
    have hpl : ∀ {m : List Prim} {p q : Prim} {f : List Prim}, Pas p m f q → f.length = m.length := by
      intro m
      induction m with
      | nil => intro p q f h; obtain ⟨rfl, _⟩ := pas_nil.1 h; rfl
      | cons x m ih2 =>
        intro p q f h
        obtain ⟨a, b, f', h1, h2, rfl⟩ := pas_cons.1 h
        simp [ih2 h2]
    exact ⟨ih.1.trans (hpl hp), by simp [ih.2]⟩
theorem right_parts {p : Patch} (h : p.right = true) : (1 ≤ p.l.length ∧ p.l.length ≤ 24) ∧ p.l.all Prim.right = true := by
  unfold Patch.right at h
  simp only [Bool.and_eq_true, decide_eq_true_eq] at h
  exact ⟨⟨h.1.1.2, h.1.2⟩, h.2⟩
theorem right_with {p : Patch} {l : List Prim} (h : p.right = true) (hl : l.length = p.l.length) (hr : l.all Prim.right = true) : ({ p with l := l } : Patch).right = true := by
  unfold Patch.right at h ⊢
  simp only [Bool.and_eq_true, decide_eq_true_eq] at h ⊢
  refine ⟨⟨⟨h.1.1.1, ?_⟩, ?_⟩, hr⟩
  · rw [hl]; exact h.1.1.2
  · rw [hl]; exact h.1.2
theorem pswap_true {p q a b : Patch} (h : (a, b, true) = pswap p q) : ∃ f s, pmay p q = true ∧ (f, s, true) = swT p.l q.l ∧ a = { q with l := f } ∧ b = { p with l := s } := by
  unfold pswap at h
  split at h
  · rename_i hc
    simp only [Bool.and_eq_true] at hc
    simp only [Prod.mk.injEq, and_true] at h
    exact ⟨_, _, hc.1, by rw [← hc.2], h.1, h.2⟩
  · simp at h
theorem pswap_back {p q a b : Patch} (h : (a, b, true) = pswap p q) : (p, q, true) = pswap a b := by
  obtain ⟨f, s, hm, hs, rfl, rfl⟩ := pswap_true h
  have hg := swapL_grid.1 (swT_true.1 hs)
  have hl := grid_len hg
  unfold pmay at hm
  simp only [Bool.and_eq_true, Bool.not_eq_true'] at hm
  obtain ⟨⟨⟨⟨e1, e2⟩, e3⟩, e4⟩, e5⟩ := hm
  have hr := grid_right hg (right_parts e1).2 (right_parts e2).2
  have hb := swT_back hs
  unfold pswap
  have hmay : pmay { q with l := f } { p with l := s } = true := by
    unfold pmay
    rw [right_with e2 hl.1 hr.1, right_with e1 hl.2 hr.2]
    dsimp only
    rw [e4, e5, show decide (q.id = p.id) = false by rw [← e3]; exact decide_eq_decide.2 eq_comm]
    rfl
  rw [hmay]
  dsimp only
  rw [← hb]
  rfl
end Go.Proofs.YtdbiillompeclaaGreatDoor.X

end
section
set_option linter.unusedVariables false
set_option linter.unusedSimpArgs false
namespace Go.Proofs.YtdbiillompeclaaGreatDoor.X
open Go Go.RowKit Go.Proofs Go.Sx
/-! Rows of prims and trees: what Apply of a row makes, or that it does not fit. -/
def runE : List File → List Prim → List File × Int
  | T, [] => (T, 0)
  | T, p :: l => if (rApplyT T p).2 = 0 then runE (rApplyT T p).1 l else rApplyT T p
def rowT (T : List File) (l : List Prim) : List File × Int := if (runE T l).2 = 0 then runE T l else (T, (runE T l).2)
theorem runs_runE {l : List Prim} {U : List File} : ∀ {T : List File}, Runs T l U ↔ runE T l = (U, 0) := by
  induction l with
  | nil => intro T; show T = U ↔ (T, (0 : Int)) = (U, 0); simp
  | cons p l ih =>
    intro T
    show (∃ M, Ran T p M ∧ Runs M l U) ↔ _
    rw [runE]
    constructor
    · rintro ⟨M, h1, h2⟩
      unfold Ran at h1
      rw [h1, if_pos rfl]
      exact ih.1 h2
    · intro h
      split at h
      · rename_i h1
        exact ⟨(rApplyT T p).1, by unfold Ran; rw [← h1], ih.2 h⟩
      · rename_i h1
        rw [h] at h1; exact absurd rfl h1
theorem rowT_ok {T U : List File} {l : List Prim} (h : Runs T l U) : rowT T l = (U, 0) := by
  unfold rowT; rw [runs_runE.1 h, if_pos rfl]
theorem rowT_runs {T U : List File} {l : List Prim} (h : rowT T l = (U, 0)) : Runs T l U := by
  unfold rowT at h
  split at h
  · exact runs_runE.2 h
  · rename_i h1
    simp only [Prod.mk.injEq] at h
    exact absurd h.2 h1
theorem runE_app {l m : List Prim} {M : List File} : ∀ {T : List File}, Runs T l M → runE T (l ++ m) = runE M m := by
  induction l with
  | nil => intro T h; cases h; rfl
  | cons p l ih =>
    rintro T ⟨N, h1, h2⟩
    rw [List.cons_append, runE]
    unfold Ran at h1
    rw [h1, if_pos rfl]
    exact ih h2
theorem rowT_err {T M M' : List File} {l : List Prim} {k : Nat} {e : Int} (h : Runs T (l.take k) M) (hk : k < l.length) (he : (M', e) = rApplyT M l[k]) (hne : ¬ e = 0) : rowT T l = (T, e) := by
  have h1 : runE T l = (M', e) := by
    conv => lhs; rw [← List.take_append_drop k l]
    rw [runE_app h, List.drop_eq_getElem_cons hk, runE, ← he, if_neg hne]
  unfold rowT; rw [h1, if_neg hne]
theorem rowT_no {T U : List File} {l : List Prim} {e : Int} (h : (U, e) = rowT T l) (he : ¬ e = 0) : U = T := by
  unfold rowT at h
  split at h
  · rename_i h1
    have : e = 0 := by have := congrArg Prod.snd h; dsimp only at this; rw [this]; exact h1
    exact absurd this he
  · exact congrArg Prod.fst h
theorem runs_take {T M M' : List File} {l : List Prim} {k : Nat} (h : Runs T (l.take k) M) (hk : k < l.length) (he : (M', (0 : Int)) = rApplyT M l[k]) : Runs T (l.take (k + 1)) M' := by
  rw [List.take_succ_eq_append_getElem hk, runs_app]
  exact ⟨M, h, M', he.symm, rfl⟩
theorem runs_all {T M : List File} {l : List Prim} {k : Nat} (h : Runs T (l.take k) M) (hk : l.length ≤ k) : Runs T l M := by
  rwa [List.take_of_length_le hk] at h
theorem runs_applied {l : List Prim} {U : List File} : ∀ {T : List File}, Runs T l U → U = appliedT T l := by
  induction l with
  | nil => intro T h; exact h.symm
  | cons p l ih =>
    rintro T ⟨M, h1, h2⟩
    rw [ih h2]
    unfold Ran at h1
    show _ = appliedT (rApplyT T p).1 l
    rw [h1]
theorem runs_inv {T U : List File} {l : List Prim} {m n : Nat} (h : Runs T l U) (hi : AppInv m n T) : AppInv (m + news l) (n + l.length) U := by
  rw [runs_applied h]; exact hi.applied l
theorem news_inv (l : List Prim) : news (invL l) ≤ many l := by
  induction l with
  | nil => simp [invL, news]
  | cons p l ih =>
    rw [invL_cons]
    have h1 : news (invL l ++ [p.flip]) = news (invL l) + p.flip.new.length := by unfold news; simp
    have h2 := flip_new p
    have h3 : p.old.length + p.new.length ≤ p.many := by unfold Prim.many; omega
    have h4 : many (p :: l) = 1 + p.many + many l := by unfold many; simp; omega
    omega
theorem take_many (l : List Prim) (k : Nat) : many (l.take k) ≤ many l := by
  have h : many l = many (l.take k) + many (l.drop k) := by
    unfold many
    have h1 : (l.map Prim.many).sum = ((l.take k).map Prim.many).sum + ((l.drop k).map Prim.many).sum := by
      rw [← List.sum_append, ← List.map_append, List.take_append_drop]
    have h2 : l.length = (l.take k).length + (l.drop k).length := by rw [← List.length_append, List.take_append_drop]
    omega
  omega
structure Undo (T : List File) (l : List Prim) (k j : Nat) (M N : List File) : Prop where
  done : Runs M ((invL (l.take k)).take j) N
  left : Runs N ((invL (l.take k)).drop j) T
theorem Undo.start {T M : List File} {l : List Prim} {k : Nat} (hS : Sor T) (hG : Go.Sx.Good T) (h : Runs T (l.take k) M) : Undo T l k 0 M M := ⟨rfl, runs_back hS hG h⟩
theorem Undo.step {T M N : List File} {l : List Prim} {k j : Nat} (h : Undo T l k j M N) (hj : j < (invL (l.take k)).length) : Undo T l k (j + 1) M (rApplyT N (invL (l.take k))[j]).1 := by
  have h2 := h.left
  rw [List.drop_eq_getElem_cons hj] at h2
  obtain ⟨K, h3, h4⟩ := h2
  have e : (rApplyT N (invL (l.take k))[j]).1 = K := by unfold Ran at h3; rw [h3]
  rw [e]
  refine ⟨?_, h4⟩
  rw [List.take_succ_eq_append_getElem hj, runs_app]
  exact ⟨N, h.done, K, h3, rfl⟩
theorem Undo.stop {T M N : List File} {l : List Prim} {k j : Nat} (h : Undo T l k j M N) (hj : (invL (l.take k)).length ≤ j) : N = T := by
  have := h.left
  rw [List.drop_eq_nil_of_le hj] at this
  exact this
theorem swT_false {l m f s : List Prim} (h : (f, s, false) = swT l m) : swapL l m = none ∧ f = [] ∧ s = [] := by
  unfold swT at h
  cases hh : swapL l m with
  | none => rw [hh] at h; simp at h; exact ⟨rfl, h.1, h.2⟩
  | some r => rw [hh] at h; simp at h
theorem swT_some {l m f s : List Prim} (h : swapL l m = some (f, s)) : swT l m = (f, s, true) := by unfold swT; rw [h]
theorem runs_swT {l m f s : List Prim} {T U : List File} (hS : Sor T) (h : Runs T (l ++ m) U) (e : (f, s, true) = swT l m) : Runs T (f ++ s) U := runs_swapL hS h (swT_true.1 e)
theorem pas_inv : ∀ {m : List Prim} {p q : Prim} {f : List Prim}, Pas p m f q → Grid (invL m) [p.flip] [q.flip] (invL f)
  | [], p, q, f, h => by
    obtain ⟨rfl, rfl⟩ := pas_nil.1 h
    exact Grid.nil
  | x :: m, p, q, f, h => by
    obtain ⟨a, b, f', h1, h2, rfl⟩ := pas_cons.1 h
    rw [invL_cons, invL_cons]
    refine Grid.row (n := [b.flip]) (q := a.flip) ?_ (pas_inv h2)
    exact pas_cons.2 ⟨b.flip, a.flip, [], swap_inv h1, pas_nil.2 ⟨rfl, rfl⟩, rfl⟩
theorem grid_join : ∀ {l : List Prim} {m1 m2 f1 f2 s t : List Prim}, Grid l m1 f1 s → Grid s m2 f2 t → Grid l (m1 ++ m2) (f1 ++ f2) t := by
  intro l m1 m2 f1 f2 s t h1
  induction h1 generalizing m2 f2 t with
  | nil =>
    intro h2
    have : ∀ {L m f s : List Prim}, Grid L m f s → L = [] → f = m ∧ s = [] := by
      intro L m f s h
      cases h with
      | nil => intro _; exact ⟨rfl, rfl⟩
      | row a b => intro e; simp at e
    obtain ⟨rfl, rfl⟩ := this h2 rfl
    exact Grid.nil
  | @row l p m n q f s hp hg ih =>
    intro h2
    generalize hL : s ++ [q] = L at h2
    cases h2 with
    | nil => simp at hL
    | @row l' p' m' n' q' f' s' hp' hg' =>
      obtain ⟨rfl, e⟩ := List.append_inj' hL rfl
      obtain rfl : q = p' := by simpa using e
      exact Grid.row (pas_app.2 ⟨_, _, _, hp, hp', rfl⟩) (ih hg')
theorem invL_app (l m : List Prim) : invL (l ++ m) = invL m ++ invL l := by simp [invL]
theorem grid_nilr : ∀ (l : List Prim), Grid l [] [] l := by
  intro l
  have : ∀ (r : List Prim), Grid r.reverse [] [] r.reverse := by
    intro r
    induction r with
    | nil => exact Grid.nil
    | cons x r ih => rw [List.reverse_cons]; exact Grid.row (pas_nil.2 ⟨rfl, rfl⟩) ih
  simpa using this l.reverse
theorem grid_inv {l m f s : List Prim} (h : Grid l m f s) : Grid (invL m) (invL l) (invL s) (invL f) := by
  induction h with
  | nil => exact grid_nilr _
  | @row l p m n q f s hp hg ih =>
    rw [invL_app, invL_app]
    exact grid_join (pas_inv hp) ih
theorem invL_invL (l : List Prim) : invL (invL l) = l := by
  unfold invL
  rw [← List.map_reverse, List.reverse_reverse, List.map_map]
  conv => rhs; rw [← List.map_id l]
  exact List.map_congr_left fun p _ => flip_flip p
theorem reb_turn {l m r : List Prim} (h : reb l m = some r) : ∃ s, swapL (invL l) m = some (r, s) ∧ reb m l = some (invL s) := by
  unfold reb at h ⊢
  rw [Option.map_eq_some_iff] at h
  obtain ⟨⟨f, s⟩, h1, rfl⟩ := h
  refine ⟨s, h1, ?_⟩
  have := swapL_grid.2 (grid_inv (swapL_grid.1 h1))
  rw [invL_invL] at this
  rw [this]; rfl
theorem rebT_turn {l m r r' : List Prim} {b b' : Bool} (h : (r, b) = rebT l m) (h' : (r', b') = rebT m l) : b = b' := by
  have key : ∀ {l m r r' : List Prim}, (r, true) = rebT l m → (r', false) = rebT m l → False := by
    intro l m r r' h h'
    obtain ⟨s, _, h2⟩ := reb_turn (rebT_true h)
    rw [(rebT_false h').1] at h2; cases h2
  cases b <;> cases b'
  · rfl
  · exact (key h' h).elim
  · exact (key h h').elim
  · rfl
theorem rebT_merge {l m a b : List Prim} {T U V : List File} (hS : Sor T) (hG : Go.Sx.Good T) (h : (a, true) = rebT l m) (h' : (b, true) = rebT m l) (hl : Runs T l U) (hm : Runs T m V) : ∃ X, Runs U a X ∧ Runs V b X := by
  obtain ⟨s, h1, h2⟩ := reb_turn (rebT_true h)
  obtain rfl : b = invL s := by have := rebT_true h'; rw [h2] at this; exact (Option.some.inj this).symm
  have hb := runs_back hS hG hl
  have h3 := runs_swapL (runs_sor hl hS) (runs_app.2 ⟨T, hb, hm⟩) h1
  obtain ⟨X, h4, h5⟩ := runs_app.1 h3
  exact ⟨X, h4, runs_back (runs_sor h4 (runs_sor hl hS)) (runs_good h4 (runs_good hl hG)) h5⟩
/-! what is brought ahead -/
def splK (W : Nat → Bool) (l : List Prim) : Nat → List Prim × List Prim
  | 0 => ([], [])
  | k + 1 => match l[k]? with
    | none => splK W l k
    | some p => if W k && (swT (splK W l k).2 [p]).2.2 then ((splK W l k).1 ++ (swT (splK W l k).2 [p]).1, (swT (splK W l k).2 [p]).2.1) else ((splK W l k).1, (splK W l k).2 ++ [p])
theorem splK_yes {W : Nat → Bool} {l f r a b : List Prim} {k : Nat} (h : (f, r) = splK W l k) (hk : k < l.length) (hw : W k = true) (hs : (a, b, true) = swT r [l[k]]) : (f ++ a, b) = splK W l (k + 1) := by
  rw [splK, List.getElem?_eq_getElem hk]
  dsimp only
  rw [← h]
  dsimp only
  rw [← hs, hw]
  rfl
theorem splK_no {W : Nat → Bool} {l f r a b : List Prim} {k : Nat} {z : Bool} (h : (f, r) = splK W l k) (hk : k < l.length) (hs : (a, b, z) = swT r [l[k]]) (hz : (W k && z) = false) : (f, r ++ [l[k]]) = splK W l (k + 1) := by
  rw [splK, List.getElem?_eq_getElem hk]
  dsimp only
  rw [← h]
  dsimp only
  rw [← hs]
  dsimp only
  rw [hz]
  rfl
theorem splK_no' {W : Nat → Bool} {l f r : List Prim} {k : Nat} (h : (f, r) = splK W l k) (hk : k < l.length) (hw : W k = false) : (f, r ++ [l[k]]) = splK W l (k + 1) := by
  rw [splK, List.getElem?_eq_getElem hk]
  dsimp only
  rw [← h, hw]
  rfl
theorem swT_len {l m f s : List Prim} (h : (f, s, true) = swT l m) : f.length = m.length ∧ s.length = l.length := grid_len (swapL_grid.1 (swT_true.1 h))
theorem swT_fit {l m f s : List Prim} {b : Bool} (h : (f, s, b) = swT l m) (hl : ∀ x ∈ l, x.fit) (hm : ∀ x ∈ m, x.fit) : (∀ x ∈ f, x.fit) ∧ ∀ x ∈ s, x.fit := by
  cases b with
  | false => obtain ⟨_, rfl, rfl⟩ := swT_false h; simp
  | true => exact (swT_ok h hl hm).2.2
theorem splK_len (W : Nat → Bool) (l : List Prim) : ∀ (k : Nat), k ≤ l.length → (splK W l k).1.length + (splK W l k).2.length = k := by
  intro k
  induction k with
  | zero => intro _; rfl
  | succ k ih =>
    intro hk
    have ih := ih (by omega)
    rw [splK, List.getElem?_eq_getElem (by omega)]
    dsimp only
    split
    · rename_i h1
      simp only [Bool.and_eq_true] at h1
      have := swT_len (l := (splK W l k).2) (m := [l[k]]) (f := (swT (splK W l k).2 [l[k]]).1) (s := (swT (splK W l k).2 [l[k]]).2.1) (by rw [← h1.2])
      dsimp only
      rw [List.length_append, this.1, this.2]
      simp only [List.length_cons, List.length_nil]; omega
    · dsimp only; rw [List.length_append]; simp only [List.length_cons, List.length_nil]; omega
theorem splK_runs (W : Nat → Bool) (l : List Prim) {T : List File} (hS : Sor T) : ∀ (k : Nat) {U : List File}, k ≤ l.length → Runs T (l.take k) U → Runs T ((splK W l k).1 ++ (splK W l k).2) U := by
  intro k
  induction k with
  | zero => intro U _ h; exact h
  | succ k ih =>
    intro U hk h
    rw [List.take_succ_eq_append_getElem (by omega), runs_app] at h
    obtain ⟨M, h1, h2⟩ := h
    have ih := ih (by omega) h1
    rw [runs_app] at ih
    obtain ⟨N, h3, h4⟩ := ih
    have h5 : Runs N ((splK W l k).2 ++ [l[k]]) U := runs_app.2 ⟨M, h4, h2⟩
    rw [splK, List.getElem?_eq_getElem (by omega)]
    dsimp only
    split
    · rename_i hc
      simp only [Bool.and_eq_true] at hc
      have h6 := runs_swT (runs_sor h3 hS) h5 (f := (swT (splK W l k).2 [l[k]]).1) (s := (swT (splK W l k).2 [l[k]]).2.1) (by rw [← hc.2])
      dsimp only
      rw [List.append_assoc, runs_app]
      exact ⟨N, h3, h6⟩
    · dsimp only
      rw [runs_app]
      exact ⟨N, h3, h5⟩
end Go.Proofs.YtdbiillompeclaaGreatDoor.X

end
section
set_option linter.unusedVariables false
set_option linter.unusedSimpArgs false
namespace Go.Sx
open Go Go.RowKit
theorem borrow {P : Program} {f : FuncId} {args : List Value} {α : Type} [Rp α] {e : TypeId} {A : Option Addr} {c : Nat} {l : List α} {Γi : List Asn} {X : Type} {rv : X → Value} {Ξo : X → List Xsn}
    (h : Con P f args [] (slA A l :: Γi) X rv Ξo (fun _ => [])) (hfree : ∀ x, ∀ z ∈ Ξo x, ∀ F M M' w, z.p F M w → z.p F M' w) :
    Con P f args [row e A c l] Γi X rv (fun x => row e A c l :: Ξo x) (fun _ => []) := by
  intro M0 Fs w hh
  obtain ⟨F, rfl, hrow⟩ := hh.one_of
  have ho : ∀ b, own [F] b ↔ F b := fun b => by simp [own]
  have hsl : Slots ⟨0, []⟩ [] { tmps := #[], defers := [] } := ⟨rfl, rfl, fun t v h => by cases h⟩
  obtain ⟨_, Fs', h1⟩ := freeze (i := 0) rfl (⟨hsl, [F], hh⟩ : St M0 (own [F]) w ⟨0, []⟩ [] [row e A c l] Γi { tmps := #[], defers := [] } w)
  have hnil : Fs' = [] := by
    cases Fs' with
    | nil => rfl
    | cons G Gs => exact h1.ex.elim
  subst hnil
  have hin : Hp M0 (own []) w [] (slA A l :: Γi) [] w := ⟨trivial, .nil, fun b hb => absurd hb (own_nil b), fun b hb => absurd hb (own_nil b), fun b hb => absurd hb (own_nil b), h1.ga, Upd.refl _ _, h1.m0, fun b hb => absurd hb (own_nil b)⟩
  refine (h M0 [] w hin).mono ?_
  rintro en w' ⟨x, Gs, rfl, hout⟩
  have hnew : ∀ b, own Gs b → ¬ b < w.heap.size := fun b hb hl => own_nil b (hout.old b hb hl)
  have hblk : ∀ b, b < w.heap.size → w'.heap[b]? = w.heap[b]? := fun b hb => hout.up.block b hb (own_nil b)
  refine ⟨x, F :: Gs, rfl, ⟨?_, ?_⟩, List.pairwise_cons.2 ⟨fun G hG b hf hg => hnew b ⟨G, hG, hg⟩ (hh.lt b ((ho b).2 hf)), hout.dis⟩, ?_, ?_, ?_, (fun p hp => by cases hp), ⟨hout.up.os, hout.up.tape, hout.up.output, hout.up.size, fun b hb _ => hblk b hb⟩, hh.m0, hh.f0⟩
  · refine (row e A c l).st _ _ _ _ _ hrow (fun b hb _ => hblk b hb) (fun b hb hM => ?_) hout.up.size
    rcases hM with hM | hM
    · exact .inl hM
    · rcases own_cons.1 hM with hM | hM
      · exact .inr ((ho b).2 hM)
      · exact absurd hb (hnew b hM)
  · have : ∀ {Ξ : List Xsn} {Gs : List (Nat → Prop)} {M M' : Nat → Prop}, (∀ z ∈ Ξ, ∀ F M M' w, z.p F M w → z.p F M' w) → all2 M w' Ξ Gs → all2 M' w' Ξ Gs := by
      intro Ξ
      induction Ξ with
      | nil =>
        intro Gs M M' _ h
        cases Gs with
        | nil => trivial
        | cons _ _ => exact h.elim
      | cons z Ξ ih =>
        intro Gs M M' hz h
        cases Gs with
        | nil => exact h.elim
        | cons G Gs => exact ⟨hz z (by simp) _ _ _ _ h.1, ih (fun z' h' => hz z' (by simp [h'])) h.2⟩
    exact this (hfree x) hout.ex
  · intro b hb
    rcases own_cons.1 hb with hb | hb
    · exact hh.dis0 b ((ho b).2 hb)
    · intro hm; exact hnew b hb (hh.m0 b hm)
  · intro b hb
    rcases own_cons.1 hb with hb | hb
    · exact Nat.lt_of_lt_of_le (hh.lt b ((ho b).2 hb)) hout.up.size
    · exact hout.lt b hb
  · intro b hb hl
    rcases own_cons.1 hb with hb | hb
    · exact (ho b).2 hb
    · exact absurd hl (hnew b hb)
theorem row_free {e : TypeId} {A : Option Addr} {c : Nat} {l : List ByteArray} : ∀ F M M' w, (row e A c l).p F M w → (row e A c l).p F M' w := by
  rintro F M M' w ⟨xs, h1, h2, h3⟩
  have := rowE_strs h3
  subst this
  exact ⟨_, h1, h2, strs_rowE l⟩
end Go.Sx

end
section
set_option linter.unusedVariables false
set_option linter.unusedSimpArgs false
namespace Go.Sx
open Go Go.RowKit
section
variable {ro : Option Nat} {P : Program} {M0 F0 : Nat → Prop} {w0 : World} {n : Nm} {σ : List (Nat × Value)} {Ξ : List Xsn} {Γ : List Asn}
theorem nilC {α : Type} [Rp α] {a : Act} {w : World} (h : St M0 F0 w0 n σ Ξ Γ a w) : St M0 F0 w0 n σ Ξ (slA (α := α) none [] :: nilA (none, 0) :: capA 0 0 :: Γ) a w := by
  obtain ⟨hs, Fs, hh⟩ := nilSl (α := α) h
  refine ⟨hs, Fs, { hh with ga := fun p hp => ?_ }⟩
  rcases List.mem_cons.1 hp with rfl | hp
  · exact hh.ga _ (by simp)
  · rcases List.mem_cons.1 hp with rfl | hp
    · exact fun _ => rfl
    · rcases List.mem_cons.1 hp with rfl | hp
      · exact Nat.le_refl 0
      · exact hh.ga p (by simp [hp])
end
theorem con_fz {P : Program} {f : FuncId} {args : List Value} {Ξi : List Xsn} {Γi : List Asn} {X : Type} {rv : X → Value} {α : Type} [Rp α] {e : TypeId} {A : X → Option Addr} {c : X → Nat} {l : X → List α} {Γo : X → List Asn}
    (h : Con P f args Ξi Γi X rv (fun x => [row e (A x) (c x) (l x)]) Γo) : Con P f args Ξi Γi X rv (fun _ => []) (fun x => slA (A x) (l x) :: nilA (A x, c x) :: capA (c x) (l x).length :: Γo x) := by
  intro M0 Fs w hh
  refine (h M0 Fs w hh).mono ?_
  rintro en w' ⟨x, Fs', rfl, hout⟩
  have hsl : Slots ⟨0, []⟩ [] { tmps := #[], defers := [] } := ⟨rfl, rfl, fun t v h => by cases h⟩
  obtain ⟨_, Fs'', h1⟩ := freezeN (i := 0) rfl (⟨hsl, Fs', hout⟩ : St M0 (own Fs) w ⟨0, []⟩ [] [row e (A x) (c x) (l x)] (Γo x) { tmps := #[], defers := [] } w')
  exact ⟨x, Fs'', rfl, h1⟩
theorem borrow2 {P : Program} {f : FuncId} {args : List Value} {α : Type} [Rp α] {e : TypeId} {A : Option Addr} {c : Nat} {l : List α} {Γi : List Asn} {X : Type} {rv : X → Value} {Ξo : X → List Xsn} {Γo : X → List Asn} (keep : X → Bool)
    (h : Con P f args [] (slA A l :: Γi) X rv Ξo Γo) :
    Con P f args [row e A c l] Γi X rv (fun x => bif keep x then [row e A c l] else Ξo x) (fun x => bif keep x then [] else Γo x) := by
  intro M0 Fs w hh
  obtain ⟨F, rfl, hrow⟩ := hh.one_of
  have ho : ∀ b, own [F] b ↔ F b := fun b => by simp [own]
  have hsl : Slots ⟨0, []⟩ [] { tmps := #[], defers := [] } := ⟨rfl, rfl, fun t v h => by cases h⟩
  obtain ⟨_, Fs', h1⟩ := Go.Sx.freeze (i := 0) rfl (⟨hsl, [F], hh⟩ : St M0 (own [F]) w ⟨0, []⟩ [] [row e A c l] Γi { tmps := #[], defers := [] } w)
  have hnil : Fs' = [] := by
    cases Fs' with
    | nil => rfl
    | cons G Gs => exact h1.ex.elim
  subst hnil
  have hin : Hp M0 (own []) w [] (slA A l :: Γi) [] w := ⟨trivial, .nil, fun b hb => absurd hb (own_nil b), fun b hb => absurd hb (own_nil b), fun b hb => absurd hb (own_nil b), h1.ga, Upd.refl _ _, h1.m0, fun b hb => absurd hb (own_nil b)⟩
  refine (h M0 [] w hin).mono ?_
  rintro en w' ⟨x, Gs, rfl, hout⟩
  have hnew : ∀ b, own Gs b → ¬ b < w.heap.size := fun b hb hl => own_nil b (hout.old b hb hl)
  have hblk : ∀ b, b < w.heap.size → w'.heap[b]? = w.heap[b]? := fun b hb => hout.up.block b hb (own_nil b)
  cases hkx : keep x with
  | false =>
    refine ⟨x, Gs, rfl, ?_⟩
    dsimp only
    rw [hkx]
    refine ⟨hout.ex, hout.dis, hout.dis0, hout.lt, fun b hb hl => absurd hl (hnew b hb), hout.ga, ⟨hout.up.os, hout.up.tape, hout.up.output, hout.up.size, fun b hb _ => hblk b hb⟩, hh.m0, hh.f0⟩
  | true =>
    refine ⟨x, [F], rfl, ?_⟩
    dsimp only
    rw [hkx]
    refine ⟨⟨?_, trivial⟩, hh.dis, hh.dis0, fun b hb => Nat.lt_of_lt_of_le (hh.lt b hb) hout.up.size, fun b hb _ => hb, (fun p hp => by cases hp), ⟨hout.up.os, hout.up.tape, hout.up.output, hout.up.size, fun b hb _ => hblk b hb⟩, hh.m0, hh.f0⟩
    exact (row e A c l).st _ _ _ _ _ hrow (fun b hb _ => hblk b hb) (fun b hb hM => hM) hout.up.size
end Go.Sx
namespace Go.Proofs.YtdbiillompeclaaGreatDoor.X
open Go Go.RowKit Go.Proofs Go.Sx
theorem inv_mono {m n m' n' : Nat} {T : List File} (h : AppInv m n T) (h1 : m ≤ m') (h2 : n ≤ n') : AppInv m' n' T := ⟨h.so, h.good, h.lmax.mono h1, Nat.le_trans h.len h2⟩
theorem many_in {l : List Prim} {p : Prim} (h : p ∈ l) : p.many ≤ many l := by
  unfold many
  have : p.many ≤ (l.map Prim.many).sum := by
    induction l with
    | nil => cases h
    | cons q l ih =>
      simp only [List.map_cons, List.sum_cons]
      rcases List.mem_cons.1 h with rfl | h
      · omega
      · have := ih h; omega
  omega
theorem news_in {l : List Prim} {p : Prim} (h : p ∈ l) : p.new.length ≤ news l := by
  unfold news
  induction l with
  | nil => cases h
  | cons q l ih =>
    simp only [List.map_cons, List.sum_cons]
    rcases List.mem_cons.1 h with rfl | h
    · omega
    · have := ih h; omega
def lnP (p : Prim) : Nat := p.old.length + p.new.length
def lns (l : List Prim) : Nat := (l.map lnP).sum
theorem lns_many (l : List Prim) : lns l ≤ many l := by
  unfold lns many
  have : (l.map lnP).sum ≤ (l.map Prim.many).sum := by
    induction l with
    | nil => simp
    | cons p l ih =>
      simp only [List.map_cons, List.sum_cons]
      have : lnP p ≤ p.many := by unfold lnP Prim.many; omega
      omega
  omega
theorem lns_cons (p : Prim) (l : List Prim) : lns (p :: l) = lnP p + lns l := by simp [lns]
theorem lns_app (l m : List Prim) : lns (l ++ m) = lns l + lns m := by simp [lns]
theorem lns_inv (l : List Prim) : lns (invL l) = lns l := by
  induction l with
  | nil => rfl
  | cons p l ih =>
    rw [invL_cons, lns_app, ih, lns_cons, lns_cons]
    have h1 : lnP p.flip = lnP p := by
      unfold lnP Prim.flip
      repeat' split
      all_goals simp
      all_goals omega
    have h2 : lns [] = 0 := rfl
    omega
theorem news_lns (l : List Prim) : news l ≤ lns l := by
  unfold news lns
  induction l with
  | nil => simp
  | cons p l ih =>
    simp only [List.map_cons, List.sum_cons]
    have : p.new.length ≤ lnP p := by unfold lnP; omega
    omega
theorem take_lns (l : List Prim) (k : Nat) : lns (l.take k) ≤ lns l := by
  have h : lns l = lns (l.take k) + lns (l.drop k) := by rw [← lns_app, List.take_append_drop]
  omega
theorem pas_lns : ∀ {m : List Prim} {p q : Prim} {f : List Prim}, Pas p m f q → lns f = lns m ∧ lnP q = lnP p
  | [], p, q, f, h => by
    obtain ⟨rfl, rfl⟩ := pas_nil.1 h
    exact ⟨rfl, rfl⟩
  | x :: m, p, q, f, h => by
    obtain ⟨a, b, f', h1, h2, rfl⟩ := pas_cons.1 h
    obtain ⟨h3, h4⟩ := pas_lns h2
    obtain ⟨⟨_, k1, k2, _⟩, ⟨_, k3, k4, _⟩⟩ := swap_keeps h1
    rw [lns_cons, lns_cons, h3, h4]
    unfold lnP
    omega
theorem grid_lns {l m f s : List Prim} (h : Grid l m f s) : lns f = lns m ∧ lns s = lns l := by
  induction h with
  | nil => exact ⟨rfl, rfl⟩
  | row hp hg ih =>
    obtain ⟨h1, h2⟩ := pas_lns hp
    rw [lns_app, lns_app, ih.1, ih.2, h1, lns_cons, lns_cons, h2]
    exact ⟨rfl, rfl⟩
theorem swT_lns {l m f s : List Prim} (h : (f, s, true) = swT l m) : lns f = lns m ∧ lns s = lns l := grid_lns (swapL_grid.1 (swT_true.1 h))
theorem swT_le {l m f s : List Prim} {b : Bool} (h : (f, s, b) = swT l m) : f.length ≤ m.length ∧ s.length ≤ l.length := by
  cases b with
  | false => obtain ⟨_, rfl, rfl⟩ := swT_false h; simp
  | true => have := swT_len h; omega
theorem rebT_lns {l m f : List Prim} (h : (f, true) = rebT l m) : lns f = lns m ∧ f.length = m.length := by
  obtain ⟨s, h1, _⟩ := reb_turn (rebT_true h)
  exact ⟨(grid_lns (swapL_grid.1 h1)).1, (grid_len (swapL_grid.1 h1)).1⟩
theorem rebT_fit {l m f : List Prim} {b : Bool} (h : (f, b) = rebT l m) (hl : ∀ x ∈ l, x.fit) (hm : ∀ x ∈ m, x.fit) : (∀ x ∈ f, x.fit) ∧ f.length ≤ m.length := by
  cases b with
  | false => obtain ⟨_, rfl⟩ := rebT_false h; simp
  | true => have := reb_ok (rebT_true h) hl hm; exact ⟨this.2, by omega⟩
structure Bnd (M : List File) (p : Prim) : Prop where
  so : Sor M
  good : Go.Sx.Good M
  fit : ∀ x ∈ M, x.2.length ≤ 2000000
  b : ∀ u, (getL M u).length + p.new.length ≤ 2000000
  len : M.length ≤ 2000000
theorem run_b {m n k : Nat} {T M : List File} {l : List Prim} (hi : AppInv m n T) (hm : m + 2 * lns l ≤ 1900000) (hn : n + 2 * l.length ≤ 1900000) (h : Runs T (l.take k) M) (hk : k < l.length) : Bnd M l[k] := by
  have h1 := runs_inv h hi
  have h2 : news (l.take k) ≤ lns l := Nat.le_trans (news_lns _) (take_lns l k)
  have h3 : l[k].new.length ≤ lns l := Nat.le_trans (news_in (List.getElem_mem hk)) (news_lns l)
  have h4 : (l.take k).length ≤ l.length := by rw [List.length_take]; omega
  exact ⟨h1.so, h1.good, fun x hx => by have := h1.lmax x hx; omega, fun u => by have := h1.lmax.get u; omega, by have := h1.len; omega⟩
theorem undo_b {m n k j : Nat} {T M N : List File} {l : List Prim} (hi : AppInv m n T) (hm : m + 2 * lns l ≤ 1900000) (hn : n + 2 * l.length ≤ 1900000) (h : Runs T (l.take k) M) (hu : Undo T l k j M N) (hj : j < (invL (l.take k)).length) : Bnd N (invL (l.take k))[j] := by
  have h1 := runs_inv hu.done (runs_inv h hi)
  have h2 : news (l.take k) ≤ lns (l.take k) := news_lns (l.take k)
  have h3 : news (invL (l.take k)) ≤ lns (l.take k) := by have := news_lns (invL (l.take k)); rwa [lns_inv] at this
  have h4 : (l.take k).length ≤ l.length := by rw [List.length_take]; omega
  have h5 := news_take (invL (l.take k)) j
  have h6 : news ((invL (l.take k)).take (j + 1)) = news ((invL (l.take k)).take j) + (invL (l.take k))[j].new.length := sum_take_succ (f := fun p : Prim => p.new.length) hj
  have h9 := news_take (invL (l.take k)) (j + 1)
  have h7 : ((invL (l.take k)).take j).length ≤ l.length := by rw [List.length_take, invL_len]; omega
  have h8 := take_lns l k
  exact ⟨h1.so, h1.good, fun x hx => by have := h1.lmax x hx; omega, fun u => by have := h1.lmax.get u; omega, by have := h1.len; omega⟩
theorem rowT_inv {m n : Nat} {T U : List File} {l : List Prim} {e : Int} (hi : AppInv m n T) (h : (U, e) = rowT T l) : AppInv (m + lns l) (n + l.length) U := by
  by_cases he : e = 0
  · subst he
    exact inv_mono (runs_inv (rowT_runs h.symm) hi) (by have := news_lns l; omega) (Nat.le_refl _)
  · rw [rowT_no h he]
    exact inv_mono hi (by omega) (by omega)
theorem inv_fit {m n : Nat} {T : List File} (h : AppInv m n T) (hm : m ≤ 2000000) : ∀ x ∈ T, x.2.length ≤ 2000000 := fun x hx => by have := h.lmax x hx; omega
end Go.Proofs.YtdbiillompeclaaGreatDoor.X

end
section
set_option linter.unusedVariables false
set_option linter.unusedSimpArgs false
namespace Go.Proofs.YtdbiillompeclaaGreatDoor.X
open Go Go.RowKit Go.Proofs Go.Sx
/-! The hunks that make one row of another one. -/
def hunkP (nm : ByteArray) (a b : List ByteArray) (p q : Nat × Nat) : Prim := ⟨0, nm, e0, (p.2 : Int), (a.drop p.1).take (q.1 - p.1), (b.drop p.2).take (q.2 - p.2)⟩
def hk (nm : ByteArray) (a b : List ByteArray) (p q : Nat × Nat) : List Prim := if p.1 < q.1 ∨ p.2 < q.2 then [hunkP nm a b p q] else []
def linS (nm : ByteArray) (a b : List ByteArray) (s : List Prim × (Nat × Nat)) (q : Nat × Nat) : List Prim × (Nat × Nat) := (s.1 ++ hk nm a b s.2 q, (q.1 + 1, q.2 + 1))
def linF (nm : ByteArray) (a b : List ByteArray) (l : List (Nat × Nat)) : List Prim × (Nat × Nat) := l.foldl (linS nm a b) ([], (0, 0))
theorem linF_snoc (nm : ByteArray) (a b : List ByteArray) (l : List (Nat × Nat)) (q : Nat × Nat) : linF nm a b (l ++ [q]) = ((linF nm a b l).1 ++ hk nm a b (linF nm a b l).2 q, (q.1 + 1, q.2 + 1)) := by
  unfold linF; rw [List.foldl_append]; rfl
theorem linF_take {nm : ByteArray} {a b : List ByteArray} {l : List (Nat × Nat)} {j : Nat} (hj : j < l.length) : linF nm a b (l.take (j + 1)) = ((linF nm a b (l.take j)).1 ++ hk nm a b (linF nm a b (l.take j)).2 l[j], (l[j].1 + 1, l[j].2 + 1)) := by
  rw [List.take_succ_eq_append_getElem hj, linF_snoc]
def linAll (nm : ByteArray) (a b : List ByteArray) (l : List (Nat × Nat)) : List Prim := (linF nm a b (l ++ [(a.length, b.length)])).1
theorem Chain.lin {a b : List ByteArray} {l : List (Nat × Nat)} {i k : Nat} (nm : ByteArray) (h : Chain a b l i k) : (linF nm a b l).2 = (i, k) := by
  cases h with
  | nil => rfl
  | snoc h0 hp hn => rw [linF_snoc]
structure HunkOk (a b : List ByteArray) (i k x y : Nat) : Prop where
  ix : i ≤ x
  ky : k ≤ y
  xl : x ≤ a.length
  yl : y ≤ b.length
  ne : (i < x ∨ k < y) → (a.drop i).take (x - i) ≠ (b.drop k).take (y - k)
theorem take_head {a b : List ByteArray} {i k x y : Nat} (hx : x ≤ a.length) (hy : y ≤ b.length) (h : (i < x ∨ k < y)) (hix : i ≤ x) (hky : k ≤ y) (e : (a.drop i).take (x - i) = (b.drop k).take (y - k)) : ∃ (h1 : i < a.length) (h2 : k < b.length), i < x ∧ k < y ∧ a[i] = b[k] := by
  have hl := congrArg List.length e
  rw [List.length_take, List.length_take, List.length_drop, List.length_drop] at hl
  have h1 : i < x := by omega
  have h2 : k < y := by omega
  have ha : i < a.length := by omega
  have hb : k < b.length := by omega
  refine ⟨ha, hb, h1, h2, ?_⟩
  rw [List.drop_eq_getElem_cons ha, List.drop_eq_getElem_cons hb, show x - i = (x - i - 1) + 1 by omega, show y - k = (y - k - 1) + 1 by omega, List.take_succ_cons, List.take_succ_cons] at e
  injection e
theorem next_hunk {a b : List ByteArray} {i k x y : Nat} (h : NextP a b i k x y) : HunkOk a b i k x y := by
  have c := h.1
  refine ⟨c.ix, c.ky, Nat.le_of_lt c.xl, Nat.le_of_lt c.yl, fun ho e => ?_⟩
  obtain ⟨h1, h2, h3, h4, h5⟩ := take_head (Nat.le_of_lt c.xl) (Nat.le_of_lt c.yl) ho c.ix c.ky e
  rcases h.2 i k ⟨Nat.le_refl _, Nat.le_refl _, h1, h2, h5, rfl⟩ with h6 | ⟨h6, _⟩ <;> omega
theorem end_hunk {a b : List ByteArray} {i k : Nat} (hi : i ≤ a.length) (hk : k ≤ b.length) (h : cmn a b i k = 0) : HunkOk a b i k a.length b.length := by
  refine ⟨hi, hk, Nat.le_refl _, Nat.le_refl _, fun ho e => ?_⟩
  obtain ⟨h1, h2, h3, h4, h5⟩ := take_head (Nat.le_refl _) (Nat.le_refl _) ho hi hk e
  rw [cmn_eq h1 h2 h5] at h; omega
theorem all_part {f : ByteArray → Bool} {a : List ByteArray} (h : a.all f = true) (i n : Nat) : ((a.drop i).take n).all f = true := by
  rw [List.all_eq_true] at h ⊢
  exact fun x hx => h x (List.mem_of_mem_drop (List.mem_of_mem_take hx))
theorem HunkOk.right {nm : ByteArray} {a b : List ByteArray} {i k x y : Nat} (h : HunkOk a b i k x y) (ho : i < x ∨ k < y) (hn : nameOk nm = true) (ha : a.all lineOk = true) (hb : b.all lineOk = true) (hf : b.length ≤ 1048576) : (hunkP nm a b (i, k) (x, y)).right = true := by
  have h1 := h.ne ho
  have h2 := h.ky; have h3 := h.yl
  unfold Prim.right hunkP
  dsimp only
  rw [if_pos rfl, hn, all_part ha, all_part hb, decide_eq_true (show (0 : Int) ≤ (k : Int) by omega), decide_eq_true (show (k : Int) ≤ 1048576 by omega), decide_eq_false h1]
  rfl
theorem hk_ran {nm : ByteArray} {a b : List ByteArray} {i k x y : Nat} {T : List File} (h : HunkOk a b i k x y) (hS : Sor T) (hg : getT T nm = some (b.take k ++ a.drop i)) (hn : nameOk nm = true) (ha : a.all lineOk = true) (hb : b.all lineOk = true) (hf : b.length ≤ 1048576) :
    ∃ U, Runs T (hk nm a b (i, k) (x, y)) U ∧ getT U = upd (getT T) nm (some (b.take y ++ a.drop x)) := by
  have h1 := h.ix; have h2 := h.ky; have h3 := h.xl; have h4 := h.yl
  unfold hk
  dsimp only
  split
  · rename_i ho
    have hr := h.right ho hn ha hb hf
    have e1 : a.drop i = (a.drop i).take (x - i) ++ a.drop x := by
      conv => lhs; rw [← List.take_append_drop (x - i) (a.drop i)]
      rw [List.drop_drop, show i + (x - i) = x by omega]
    have e2 : b.take y = b.take k ++ (b.drop k).take (y - k) := by
      conv => lhs; rw [show y = k + (y - k) by omega, List.take_add]
    have hs : Step (getT T) (hunkP nm a b (i, k) (x, y)) (upd (getT T) nm (some (b.take y ++ a.drop x))) := by
      refine (step0 rfl).2 ⟨b.take k, a.drop x, ?_, ?_, ?_⟩
      · show getT T nm = some (b.take k ++ (a.drop i).take (x - i) ++ a.drop x)
        rw [hg, List.append_assoc, ← e1]
      · rw [List.length_take]; show ((min k b.length : Nat) : Int) = ((k : Nat) : Int); omega
      · show upd (getT T) nm (some (b.take y ++ a.drop x)) = upd (getT T) nm (some (b.take k ++ (b.drop k).take (y - k) ++ a.drop x))
        rw [← e2]
    obtain ⟨U, hU, hg'⟩ := step_ran hS hr hs
    exact ⟨U, ⟨U, hU, rfl⟩, hg'⟩
  · rename_i ho
    obtain rfl : i = x := by omega
    obtain rfl : k = y := by omega
    refine ⟨T, rfl, ?_⟩
    funext z
    unfold upd
    split
    · rename_i e; rw [e, hg]
    · rfl
theorem chain_runs {nm : ByteArray} {a b : List ByteArray} {l : List (Nat × Nat)} {i k : Nat} {T : List File} (h : Chain a b l i k) (hS : Sor T) (hg : getT T nm = some a) (hn : nameOk nm = true) (ha : a.all lineOk = true) (hb : b.all lineOk = true) (hf : b.length ≤ 1048576) :
    ∃ U, Runs T (linF nm a b l).1 U ∧ getT U = upd (getT T) nm (some (b.take k ++ a.drop i)) := by
  induction h with
  | nil =>
    refine ⟨T, rfl, ?_⟩
    funext z
    unfold upd
    split
    · rename_i e; rw [e, hg]; rfl
    · rfl
  | @snoc l i k x y h0 hp hn' ih =>
    obtain ⟨U, hU, hgU⟩ := ih
    have c := hn'.1
    have hSU := runs_sor hU hS
    obtain ⟨V, hV, hgV⟩ := hk_ran (T := U) (next_hunk hn') hSU (by rw [hgU, upd_at]) hn ha hb hf
    rw [linF_snoc, h0.lin]
    refine ⟨V, runs_app.2 ⟨U, hU, hV⟩, ?_⟩
    rw [hgV, hgU]
    have e : b.take y ++ a.drop x = b.take (y + 1) ++ a.drop (x + 1) := by
      rw [List.take_succ_eq_append_getElem c.yl, List.drop_eq_getElem_cons c.xl, c.eq, List.append_assoc]; rfl
    funext z
    unfold upd
    split
    · rw [e]
    · rfl
theorem comm_runs {nm : ByteArray} {a b : List ByteArray} {l : List (Nat × Nat)} {T : List File} (h : Comm a b l) (hS : Sor T) (hg : getT T nm = some a) (hn : nameOk nm = true) (ha : a.all lineOk = true) (hb : b.all lineOk = true) (hf : b.length ≤ 1048576) :
    ∃ U, Runs T (linAll nm a b l) U ∧ getT U = upd (getT T) nm (some b) := by
  obtain ⟨i, k, h1, h2⟩ := h
  obtain ⟨U, hU, hgU⟩ := chain_runs h1 hS hg hn ha hb hf
  obtain ⟨V, hV, hgV⟩ := hk_ran (T := U) (end_hunk h1.le.1 h1.le.2 h2) (runs_sor hU hS) (by rw [hgU, upd_at]) hn ha hb hf
  unfold linAll
  rw [linF_snoc, h1.lin]
  refine ⟨V, runs_app.2 ⟨U, hU, hV⟩, ?_⟩
  rw [hgV, hgU]
  funext z
  unfold upd
  split
  · rw [List.take_length, List.drop_length, List.append_nil]
  · rfl
/-! what the hunks cost -/
def costL (l : List Prim) : Nat := (l.map lnP).sum
theorem costL_app (l m : List Prim) : costL (l ++ m) = costL l + costL m := by unfold costL; simp
theorem hk_cost {nm : ByteArray} {a b : List ByteArray} {i k x y : Nat} (h : HunkOk a b i k x y) : costL (hk nm a b (i, k) (x, y)) = (x - i) + (y - k) := by
  have h1 := h.ix; have h2 := h.ky; have h3 := h.xl; have h4 := h.yl
  unfold hk
  dsimp only
  split
  · unfold costL hunkP lnP; simp; omega
  · show 0 = _; omega
theorem chain_cost {nm : ByteArray} {a b : List ByteArray} {l : List (Nat × Nat)} {i k : Nat} (h : Chain a b l i k) : costL (linF nm a b l).1 + 2 * l.length = i + k := by
  induction h with
  | nil => rfl
  | @snoc l i k x y h0 hp hn ih =>
    have c := hn.1
    have h1 := c.ix; have h2 := c.ky
    rw [linF_snoc, h0.lin]
    dsimp only
    rw [costL_app, hk_cost (next_hunk hn)]
    simp only [List.length_append, List.length_singleton]
    omega
theorem comm_cost {nm : ByteArray} {a b : List ByteArray} {l : List (Nat × Nat)} (h : Comm a b l) : costL (linAll nm a b l) + 2 * lcs a b = a.length + b.length := by
  have hl := h.len
  obtain ⟨i, k, h1, h2⟩ := h
  have h3 := chain_cost (nm := nm) h1
  have h4 := h1.le
  unfold linAll
  rw [linF_snoc, h1.lin]
  dsimp only
  rw [costL_app, hk_cost (end_hunk h4.1 h4.2 h2)]
  omega
structure Hks (nm : ByteArray) (a b : List ByteArray) (l : List Prim) (i k : Nat) : Prop where
  at_ : ∀ p ∈ l, ∃ i' k' x y, HunkOk a b i' k' x y ∧ (i' < x ∨ k' < y) ∧ p = hunkP nm a b (i', k') (x, y) ∧ (x < i ∧ y < k)
  up : l.Pairwise (fun (p q : Prim) => p.pos + p.new.length < q.pos)
theorem chain_hks {nm : ByteArray} {a b : List ByteArray} {l : List (Nat × Nat)} {i k : Nat} (h : Chain a b l i k) : Hks nm a b (linF nm a b l).1 i k := by
  induction h with
  | nil => exact ⟨fun p hp => (by cases hp), .nil⟩
  | @snoc l i k x y h0 hp hn ih =>
    have c := hn.1
    have h1 := c.ix; have h2 := c.ky
    have hh := next_hunk hn
    rw [linF_snoc, h0.lin]
    dsimp only
    unfold hk
    dsimp only
    split
    · rename_i ho
      refine ⟨fun p hp => ?_, List.pairwise_append.2 ⟨ih.up, List.pairwise_singleton _ _, fun p hp q hq => ?_⟩⟩
      · rcases List.mem_append.1 hp with hp | hp
        · obtain ⟨i', k', x', y', g1, g2, g3, g4⟩ := ih.at_ p hp
          exact ⟨i', k', x', y', g1, g2, g3, by omega, by omega⟩
        · exact ⟨i, k, x, y, hh, ho, List.mem_singleton.1 hp, Nat.lt_succ_self _, Nat.lt_succ_self _⟩
      · rw [List.mem_singleton.1 hq]
        obtain ⟨i', k', x', y', g1, g2, rfl, g4⟩ := ih.at_ p hp
        have := g1.ky; have := g1.yl
        unfold hunkP
        simp only [List.length_take, List.length_drop]
        omega
    · rw [List.append_nil]
      refine ⟨fun p hp => ?_, ih.up⟩
      obtain ⟨i', k', x', y', g1, g2, g3, g4⟩ := ih.at_ p hp
      exact ⟨i', k', x', y', g1, g2, g3, by omega, by omega⟩
theorem comm_hks {nm : ByteArray} {a b : List ByteArray} {l : List (Nat × Nat)} (h : Comm a b l) : Hks nm a b (linAll nm a b l) (a.length + 1) (b.length + 1) := by
  obtain ⟨i, k, h1, h2⟩ := h
  have ih := chain_hks (nm := nm) h1
  have h4 := h1.le
  have hh := end_hunk h4.1 h4.2 h2
  unfold linAll
  rw [linF_snoc, h1.lin]
  dsimp only
  unfold hk
  dsimp only
  split
  · rename_i ho
    refine ⟨fun p hp => ?_, List.pairwise_append.2 ⟨ih.up, List.pairwise_singleton _ _, fun p hp q hq => ?_⟩⟩
    · rcases List.mem_append.1 hp with hp | hp
      · obtain ⟨i', k', x', y', g1, g2, g3, g4⟩ := ih.at_ p hp
        exact ⟨i', k', x', y', g1, g2, g3, by omega, by omega⟩
      · exact ⟨i, k, a.length, b.length, hh, ho, List.mem_singleton.1 hp, Nat.lt_succ_self _, Nat.lt_succ_self _⟩
    · rw [List.mem_singleton.1 hq]
      obtain ⟨i', k', x', y', g1, g2, rfl, g4⟩ := ih.at_ p hp
      have := g1.ky; have := g1.yl
      unfold hunkP
      simp only [List.length_take, List.length_drop]
      omega
  · rw [List.append_nil]
    refine ⟨fun p hp => ?_, ih.up⟩
    obtain ⟨i', k', x', y', g1, g2, g3, g4⟩ := ih.at_ p hp
    exact ⟨i', k', x', y', g1, g2, g3, by omega, by omega⟩
theorem Hks.right {nm : ByteArray} {a b : List ByteArray} {l : List Prim} {i k : Nat} (h : Hks nm a b l i k) (hn : nameOk nm = true) (ha : a.all lineOk = true) (hb : b.all lineOk = true) (hf : b.length ≤ 1048576) : ∀ p ∈ l, p.right = true := by
  intro p hp
  obtain ⟨i', k', x', y', g1, g2, rfl, g4⟩ := h.at_ p hp
  exact g1.right g2 hn ha hb hf
theorem Hks.swap {nm : ByteArray} {a b : List ByteArray} {l : List Prim} {i k u v : Nat} (h : Hks nm a b l i k) (hn : nameOk nm = true) (ha : a.all lineOk = true) (hb : b.all lineOk = true) (hfa : a.length ≤ 1000000) (hfb : b.length ≤ 1000) (huv : u < v) (hv : v < l.length) :
    Go.Sx.swap l[u] l[v] = ({ l[v] with pos := l[v].pos - ((l[u].new.length : Int) - l[u].old.length) }, l[u], true) := by
  have hr := h.right hn ha hb (by omega)
  have r1 := hr l[u] (List.getElem_mem _)
  have r2 := hr l[v] (List.getElem_mem _)
  have hup := List.pairwise_iff_getElem.1 h.up u v (by omega) hv huv
  obtain ⟨i1, k1, x1, y1, g1, g2, g3, g4⟩ := h.at_ l[u] (List.getElem_mem _)
  obtain ⟨i2, k2, x2, y2, f1, f2, f3, f4⟩ := h.at_ l[v] (List.getElem_mem _)
  refine swap_mk (sw00a (by rw [g3]; rfl) (by rw [f3]; rfl) (by rw [g3, f3]; rfl) hup) r1 r2 ?_ r1
  have h5 : l[u].old.length = x1 - i1 := by have := g1.ix; have := g1.xl; rw [g3]; unfold hunkP; simp only [List.length_take, List.length_drop]; omega
  have h6 : l[u].new.length = y1 - k1 := by have := g1.ky; have := g1.yl; rw [g3]; unfold hunkP; simp only [List.length_take, List.length_drop]; omega
  have h7 : l[u].pos = (k1 : Int) := by rw [g3]; rfl
  have h8 := g1.ix; have h9 := g1.xl; have h10 := g1.ky; have h11 := g1.yl
  have h12 := f1.ky; have h13 := f1.yl
  have h14 : l[v].pos = (k2 : Int) := by rw [f3]; rfl
  have hk0 : l[v].kind = 0 := by rw [f3]; rfl
  unfold Prim.right at r2 ⊢
  rw [if_pos hk0] at r2
  dsimp only
  rw [if_pos hk0]
  simp only [Bool.and_eq_true, decide_eq_true_eq] at r2 ⊢
  obtain ⟨q1, ⟨⟨⟨⟨q2, q3⟩, q4⟩, q5⟩, q6⟩, q7⟩ := r2
  exact ⟨q1, ⟨⟨⟨⟨q2, by omega⟩, by omega⟩, q5⟩, q6⟩, q7⟩
theorem chain_same {nm : ByteArray} {a : List ByteArray} {l : List (Nat × Nat)} {i k : Nat} (h : Chain a a l i k) : i = k ∧ (linF nm a a l).1 = [] := by
  induction h with
  | nil => exact ⟨rfl, rfl⟩
  | @snoc l i k x y h0 hp hn ih =>
    obtain ⟨rfl, ih⟩ := ih
    have c := hn.1
    have h1 := c.ix; have h2 := c.ky; have h3 := c.xl
    have hi : i < a.length := by omega
    rcases hn.2 i i ⟨Nat.le_refl _, Nat.le_refl _, hi, hi, rfl, rfl⟩ with h4 | ⟨h4, h5⟩
    · omega
    · obtain rfl : i = x := by omega
      obtain rfl : i = y := by omega
      refine ⟨rfl, ?_⟩
      rw [linF_snoc, h0.lin, ih]
      unfold hk
      rw [if_neg (by dsimp only; omega)]
      rfl
theorem comm_same {nm : ByteArray} {a : List ByteArray} {l : List (Nat × Nat)} (h : Comm a a l) : linAll nm a a l = [] := by
  obtain ⟨i, k, h1, h2⟩ := h
  have h3 := chain_same (nm := nm) h1
  obtain ⟨rfl, h4⟩ := h3
  have h5 := h1.le
  have h6 : i = a.length := by
    have : cmn a a i i = a.length - i := by unfold cmn; rw [lcs_self, List.length_drop]
    omega
  unfold linAll
  rw [linF_snoc, h1.lin, h4]
  unfold hk
  rw [if_neg (by dsimp only; omega)]
  rfl
end Go.Proofs.YtdbiillompeclaaGreatDoor.X

end
section
set_option linter.unusedVariables false
set_option linter.unusedSimpArgs false
namespace Go.Proofs.YtdbiillompeclaaGreatDoor.X
open Go Go.RowKit Go.Proofs Go.Sx
/-! How the tables come to hold what is common. -/
def longB (l m : List ByteArray) : Bool := decide ((200 : Int) < (l.length : Int)) || decide ((200 : Int) < (m.length : Int))
theorem longB_no {l m : List ByteArray} (h : longB l m = false) : l.length ≤ 200 ∧ m.length ≤ 200 := by
  unfold longB at h
  simp only [Bool.or_eq_false_iff, decide_eq_false_iff_not] at h
  omega
def tf (l m : List ByteArray) (p q : Nat) : Nat → Nat → Int := fun r k => if p ≤ r ∨ (r + 1 = p ∧ q ≤ k) then (cmn l m r k : Int) else 0
theorem tf_in {l m : List ByteArray} {p q r k : Nat} (h : p ≤ r ∨ (r + 1 = p ∧ q ≤ k)) : tf l m p q r k = (cmn l m r k : Int) := by unfold tf; rw [if_pos h]
theorem tf0 (l m : List ByteArray) (q r k : Nat) : tf l m 0 q r k = (cmn l m r k : Int) := tf_in (.inl (Nat.zero_le _))
theorem len_init (l m : List ByteArray) : List.replicate (l.length + 1) (List.replicate (m.length + 1) (0 : Int)) = mkT (l.length + 1) (m.length + 1) (tf l m l.length m.length) := by
  rw [mkT_rep rfl]
  refine mkT_ext fun r k hr hk => ?_
  unfold tf
  split
  · rw [cmn_end (by omega)]; rfl
  · rfl
theorem len_row (l m : List ByteArray) (p : Nat) (hp : p < l.length) : mkT (l.length + 1) (m.length + 1) (tf l m (p + 1) 0) = mkT (l.length + 1) (m.length + 1) (tf l m p m.length) := by
  refine mkT_ext fun r k hr hk => ?_
  unfold tf
  by_cases h1 : p ≤ r
  · rw [if_pos (by omega), if_pos (.inl h1)]
  · rw [if_neg (by omega)]
    split
    · rw [cmn_end (by omega)]; rfl
    · rfl
theorem len_ne {l m : List ByteArray} {p q : Nat} (hp : p < l.length) (hq : q < m.length) (h : ¬ l[p] = m[q]) :
    mkT (l.length + 1) (m.length + 1) (upF (tf l m (p + 1) (q + 1)) p q (max (tf l m (p + 1) (q + 1) (p + 1) q) (tf l m (p + 1) (q + 1) p (q + 1)))) = mkT (l.length + 1) (m.length + 1) (tf l m (p + 1) q) := by
  refine mkT_ext fun r k hr hk => ?_
  unfold upF
  by_cases h1 : r = p ∧ k = q
  · obtain ⟨rfl, rfl⟩ := h1
    rw [if_pos ⟨rfl, rfl⟩, tf_in (.inl (Nat.le_refl _)), tf_in (.inr ⟨rfl, Nat.le_refl _⟩), tf_in (.inr ⟨rfl, Nat.le_refl _⟩), cmn_ne hp hq h]
    omega
  · rw [if_neg h1]
    unfold tf
    by_cases h2 : p + 1 ≤ r ∨ (r + 1 = p + 1 ∧ q + 1 ≤ k)
    · rw [if_pos h2, if_pos (by omega)]
    · rw [if_neg h2, if_neg (by omega)]
theorem len_eq {l m : List ByteArray} {p q : Nat} {z : Int} (hp : p < l.length) (hq : q < m.length) (h : l[p] = m[q]) :
    mkT (l.length + 1) (m.length + 1) (upF (upF (tf l m (p + 1) (q + 1)) p q z) p q (upF (tf l m (p + 1) (q + 1)) p q z (p + 1) (q + 1) + 1)) = mkT (l.length + 1) (m.length + 1) (tf l m (p + 1) q) := by
  refine mkT_ext fun r k hr hk => ?_
  have e1 : upF (tf l m (p + 1) (q + 1)) p q z (p + 1) (q + 1) = (cmn l m (p + 1) (q + 1) : Int) := by
    unfold upF; rw [if_neg (by omega), tf_in (.inl (Nat.le_refl _))]
  rw [e1]
  unfold upF
  by_cases h1 : r = p ∧ k = q
  · obtain ⟨rfl, rfl⟩ := h1
    rw [if_pos ⟨rfl, rfl⟩, tf_in (.inr ⟨rfl, Nat.le_refl _⟩), cmn_eq hp hq h]
    omega
  · rw [if_neg h1, if_neg h1]
    unfold tf
    by_cases h2 : p + 1 ≤ r ∨ (r + 1 = p + 1 ∧ q + 1 ≤ k)
    · rw [if_pos h2, if_pos (by omega)]
    · rw [if_neg h2, if_neg (by omega)]
theorem upF_at (f : Nat → Nat → Int) (r k : Nat) (v : Int) (r' k' : Nat) : upF f r k v r' k' = if r' = r ∧ k' = k then v else f r' k' := rfl
/-! the document's -/
def bf (l m : List ByteArray) (r k : Nat) : Int := (beg l m r k : Int)
def mkR (M : Nat) (f : Nat → Int) : List Int := (List.range M).map f
def upR (f : Nat → Int) (k : Nat) (v : Int) : Nat → Int := fun k' => if k' = k then v else f k'
theorem mkR_len (M : Nat) (f : Nat → Int) : (mkR M f).length = M := by simp [mkR]
theorem mkR_get {M : Nat} {f : Nat → Int} {k : Nat} (h : k < M) : (mkR M f)[k]? = some (f k) := mkR_at h
theorem mkR_upd {M : Nat} {f g : Nat → Int} {k : Nat} {v : Int} (h : ∀ k', k' < M → g k' = if k' = k then v else f k') : (mkR M f).set k v = mkR M g := mkR_set h
theorem mkR_ext {M : Nat} {f g : Nat → Int} (h : ∀ k, k < M → f k = g k) : mkR M f = mkR M g := List.map_congr_left fun k hk => h k (List.mem_range.1 hk)
def ct (l m : List ByteArray) (i k : Nat) : Nat → Int := fun k' => if k' < k then bf l m i k' else 0
theorem ct_0 (l m : List ByteArray) (i M : Nat) : List.replicate M (0 : Int) = mkR M (ct l m i 0) := by
  unfold mkR
  refine List.ext_getElem (by simp) fun j h1 h2 => ?_
  simp [ct]
theorem ct_all (l m : List ByteArray) (i : Nat) : mkR (m.length + 1) (ct l m i (m.length + 1)) = mkR (m.length + 1) (bf l m i) := mkR_ext fun k hk => by unfold ct; rw [if_pos hk]
theorem ct_zero {l m : List ByteArray} {i k : Nat} (h : i = 0 ∨ k = 0) : mkR (m.length + 1) (ct l m i k) = mkR (m.length + 1) (ct l m i (k + 1)) := mkR_ext fun k' hk => by
  unfold ct
  by_cases h1 : k' < k
  · rw [if_pos h1, if_pos (by omega)]
  · rw [if_neg h1]
    split
    · obtain rfl : k' = k := by omega
      unfold bf
      rcases h with rfl | rfl
      · rw [beg_0]; rfl
      · rw [beg_0r]; rfl
    · rfl
theorem mkT_snoc (n M : Nat) (f : Nat → Nat → Int) : mkT n M f ++ [mkR M (f n)] = mkT (n + 1) M f := by
  unfold mkT mkR
  rw [List.range_succ, List.map_append]; rfl
def mx (l m : List ByteArray) (i k : Nat) : Int := max (bf l m i (k + 1)) (bf l m (i + 1) k)
theorem st_a {l m : List ByteArray} {i k : Nat} : ∀ k', k' < m.length + 1 → upR (ct l m (i + 1) (k + 1)) (k + 1) (bf l m i (k + 1)) k' = if k' = k + 1 then bf l m i (k + 1) else ct l m (i + 1) (k + 1) k' := fun _ _ => rfl
theorem st_v1 (l m : List ByteArray) (i k : Nat) : upR (ct l m (i + 1) (k + 1)) (k + 1) (bf l m i (k + 1)) (k + 1) = bf l m i (k + 1) := by unfold upR; rw [if_pos rfl]
theorem st_v0 (l m : List ByteArray) (i k : Nat) (z : Int) : upR (ct l m (i + 1) (k + 1)) (k + 1) z k = bf l m (i + 1) k := by
  unfold upR ct; rw [if_neg (by omega), if_pos (by omega)]
theorem st_T {l m : List ByteArray} {i k : Nat} (h : bf l m i (k + 1) < bf l m (i + 1) k) : ∀ k', k' < m.length + 1 → upR (ct l m (i + 1) (k + 1)) (k + 1) (mx l m i k) k' = if k' = k + 1 then bf l m (i + 1) k else upR (ct l m (i + 1) (k + 1)) (k + 1) (bf l m i (k + 1)) k' := fun k' _ => by
  unfold upR mx
  split
  · omega
  · rfl
theorem st_F {l m : List ByteArray} {i k : Nat} (h : ¬ bf l m i (k + 1) < bf l m (i + 1) k) : mkR (m.length + 1) (upR (ct l m (i + 1) (k + 1)) (k + 1) (bf l m i (k + 1))) = mkR (m.length + 1) (upR (ct l m (i + 1) (k + 1)) (k + 1) (mx l m i k)) := by
  have : mx l m i k = bf l m i (k + 1) := by unfold mx; omega
  rw [this]
theorem st_vm (l m : List ByteArray) (i k : Nat) : upR (ct l m (i + 1) (k + 1)) (k + 1) (mx l m i k) (k + 1) = mx l m i k := by unfold upR; rw [if_pos rfl]
theorem st_ne {l m : List ByteArray} {i k : Nat} (hi : i < l.length) (hk : k < m.length) (h : ¬ l[i] = m[k]) : mkR (m.length + 1) (upR (ct l m (i + 1) (k + 1)) (k + 1) (mx l m i k)) = mkR (m.length + 1) (ct l m (i + 1) (k + 1 + 1)) := mkR_ext fun k' _ => by
  unfold upR ct
  by_cases h1 : k' = k + 1
  · subst h1
    rw [if_pos rfl, if_pos (by omega)]
    unfold mx bf
    rw [beg_ne hi hk h]; omega
  · rw [if_neg h1]
    by_cases h2 : k' < k + 1
    · rw [if_pos h2, if_pos (by omega)]
    · rw [if_neg h2, if_neg (by omega)]
theorem st_le {l m : List ByteArray} {i k : Nat} (hi : i < l.length) (hk : k < m.length) (h : l[i] = m[k]) (hn : ¬ mx l m i k < bf l m i k + 1) : mkR (m.length + 1) (upR (ct l m (i + 1) (k + 1)) (k + 1) (mx l m i k)) = mkR (m.length + 1) (ct l m (i + 1) (k + 1 + 1)) := mkR_ext fun k' _ => by
  unfold upR ct
  by_cases h1 : k' = k + 1
  · subst h1
    rw [if_pos rfl, if_pos (by omega)]
    have h3 := beg_lip hi hk
    unfold mx bf at *
    rw [beg_eq hi hk h]; omega
  · rw [if_neg h1]
    by_cases h2 : k' < k + 1
    · rw [if_pos h2, if_pos (by omega)]
    · rw [if_neg h2, if_neg (by omega)]
theorem st_gt {l m : List ByteArray} {i k : Nat} (hi : i < l.length) (hk : k < m.length) (h : l[i] = m[k]) : ∀ k', k' < m.length + 1 → ct l m (i + 1) (k + 1 + 1) k' = if k' = k + 1 then bf l m i k + 1 else upR (ct l m (i + 1) (k + 1)) (k + 1) (mx l m i k) k' := fun k' _ => by
  unfold upR ct
  by_cases h1 : k' = k + 1
  · subst h1
    rw [if_pos (by omega), if_pos rfl]
    unfold bf
    rw [beg_eq hi hk h]; omega
  · rw [if_neg h1, if_neg h1]
    by_cases h2 : k' < k + 1
    · rw [if_pos h2, if_pos (by omega)]
    · rw [if_neg h2, if_neg (by omega)]
end Go.Proofs.YtdbiillompeclaaGreatDoor.X

end
section
set_option linter.unusedVariables false
set_option linter.unusedSimpArgs false
namespace Go.Proofs.YtdbiillompeclaaGreatDoor.X
open Go Go.RowKit Go.Proofs Go.Sx
attribute [local irreducible] slA isA box row
theorem hunk_some {l m : List ByteArray} {p q : Nat × Nat} (h1 : p.1 ≤ q.1) (h2 : p.2 ≤ q.2) (h3 : q.1 ≤ l.length) (h4 : q.2 ≤ m.length) : decide (p.1 < q.1 ∨ p.2 < q.2) = decide ((0 : Int) < (((l.drop p.1).take (q.1 - p.1)).length : Int) + (((m.drop p.2).take (q.2 - p.2)).length : Int)) := by
 rw [decide_eq_decide, List.length_take, List.length_take, List.length_drop, List.length_drop]
 omega

theorem fa111_0 : FA Tryz.prog 111 0 0 := fun b o w => by kernel_rfl
theorem fa111_1 : FA Tryz.prog 111 1 1 := fun b o w => by kernel_rfl
theorem inf3 : (Tryz.prog.info? 3).map (fun i => (i.zero, i.size, i.bytes)) = some (some (.int .i64 0), 1, 8) := by kernel_rfl
theorem inf22 : (Tryz.prog.info? 22).map (fun i => (i.zero, i.size, i.bytes)) = some (some (.slice none 0 0), 1, 24) := by kernel_rfl
theorem inf111 : (Tryz.prog.info? 111).map (fun i => (i.zero, i.size, i.bytes)) = some (some (.agg #[.int .i64 0, .int .i64 0]), 2, 16) := by kernel_rfl
theorem sb111 : SB Tryz.prog 111 [(0, 1), (1, 1)] [.int .i64 0, .int .i64 0] := SB.struct Tryz.zeroValue111 rfl Tryz.underlying111 (fun w => by kernel_rfl)
set_option maxRecDepth 100000 in
theorem c_dLong (l m : List ByteArray) (A B : Option Addr) (c c' : Nat) : Con Tryz.prog 68 [.slice A l.length c, .slice B m.length c'] [] [] Unit (fun _ => .bool (longB l m)) (fun _ => []) (fun _ => []) := by
 refine con Tryz.func68 rfl Tryz.ntmps68 rfl ?_
 intro M0 F0 w0
 refine cs ?_
 refine cr ?_
 refine ls (op (p_asg rfl) rfl) ?_
 refine ln ?_
 refine nthen ?_
 refine cs ?_
 refine cr ?_
 refine ls (op (p_move rfl) rfl) ?_
 refine ls (op (p_lenl rfl Tryz.underlying37) rfl) ?_
 refine ls (op (p_icmp rfl rfl rfl) rfl) ?_
 refine ls (op (p_move rfl) rfl) ?_
 refine orX 4 8 12 rfl (subσ.cons (t := 4) rfl (subσ.nil _)) ?_ ?_
 ·
  intro h8
  refine lskip rfl rfl rfl rfl rfl ?_
  refine lskip rfl rfl rfl rfl rfl ?_
  refine lskip rfl rfl rfl rfl rfl ?_
  refine ls (op (p_pickt rfl rfl) rfl) ?_
  refine ln (nmid (wk0 (by repeat (first | exact subσ.nil _ | refine subσ.cons rfl ?_)) (by repeat' (first | constructor | apply Sub.suf))))
 apply exI
 ·
  intro h8
  refine lwant rfl rfl rfl rfl (op (p_move rfl) rfl) ?_
  refine lwant rfl rfl rfl rfl (op (p_lenl rfl Tryz.underlying37) rfl) ?_
  refine lwant rfl rfl rfl rfl (op (p_icmp rfl rfl rfl) rfl) ?_
  refine ls (op (p_pickf rfl rfl) rfl) ?_
  refine ln (nmid (wk0 (by repeat (first | exact subσ.nil _ | refine subσ.cons rfl ?_)) (by repeat' (first | constructor | apply Sub.suf))))
 ·
  refine ls (op (p_asg rfl) rfl) ?_
  refine ln ?_
  refine nthen ?_
  refine cret ?_
  refine xret (fun _ _ h => h) ?_
  refine rret (is := []) () (Or.inl rfl) (Res.t rfl Res.d) (rfl) rfl (by repeat' (first | constructor | apply Sub.suf))

set_option maxRecDepth 100000 in
theorem c_dLengths (l m : List ByteArray) (A B : Option Addr) (c c' : Nat) (hl : l.length ≤ 200) (hm : m.length ≤ 200) : Con Tryz.prog 120 [.slice A l.length c, .slice B m.length c'] [] [slA A l, slA B m] (Option Addr × Nat) (fun x => .slice x.1 (l.length + 1) x.2) (fun _ => []) (fun x => [slA x.1 (mkT (l.length + 1) (m.length + 1) (tf l m (0) (m.length)))]) := by
 refine con Tryz.func120 rfl Tryz.ntmps120 rfl ?_
 intro M0 F0 w0
 refine cs ?_
 refine cr ?_
 refine ls (op (p_asg rfl) rfl) ?_
 refine ln ?_
 refine nthen ?_
 refine cs ?_
 refine cr ?_
 refine ls (op (p_move rfl) rfl) ?_
 refine ls (op (p_lenl rfl Tryz.underlying37) rfl) ?_
 refine ls (op (p_add rfl rfl (by omega)) rfl) ?_
 refine ls (o_mk (⟨none, 0, 0⟩ : Hdr) () (l.length + 1) Tryz.underlying179 inf22 rfl (by decide) (fun _ _ p hp => by cases hp) (by omega) (by omega) rfl rfl (by omega) (by omega) rfl) ?_
 refine le ?_; intro g
 rw [List.length_replicate]
 refine lmono (fun a w h => tab0 (β := Int) (e2 := 3) (m := (m.length + 1)) (ls := List.replicate 0 (List.replicate (m.length + 1) 0)) (by repeat' constructor) (hd_0 (m.length + 1) (l.length + 1)) rfl (by repeat' constructor) h) ?_
 refine ls (op (p_asg rfl) rfl) ?_
 refine ln ?_
 refine nthen ?_
 refine cs ?_
 refine cs ?_
 refine cr ?_
 refine ls (op (p_move rfl) rfl) ?_
 refine ls (op (p_lenl rfl Tryz.underlying179) rfl) ?_
 refine ls (op (p_move rfl) rfl) ?_
 refine ln ?_
 refine nthen ?_
 refine cb ?_
 refine cl (ι := {q : Nat × List Nat // q.2.length = q.1 ∧ q.1 ≤ l.length + 1}) (fun i => St M0 F0 w0 89 [(0, .slice A l.length c), (1, .slice B m.length c'), (5, .slice (some ⟨g, 0, none⟩) (l.length + 1) (l.length + 1)), (14, .int .i64 ((l.length + 1 : Nat) : Int)), (15, .int .i64 ((i.1.1 : Nat) : Int))] [tab 22 3 g (l.length + 1) (hd (m.length + 1) i.1.2 (l.length + 1)) (m.length + 1) i.1.2 (List.replicate (i.1.1) (List.replicate (m.length + 1) 0))] [slA A l, slA B m]) (fun i => l.length + 1 - i.1.1) ⟨(0, []), rfl, Nat.zero_le _⟩ (wk0 (by repeat (first | exact subσ.nil _ | refine subσ.cons rfl ?_)) (by repeat' (first | constructor | apply Sub.suf))) ?_
 rintro ⟨⟨k, gs⟩, hgk, hk⟩
 refine cmono (S' := St M0 F0 w0 89 [(0, .slice A l.length c), (1, .slice B m.length c'), (5, .slice (some ⟨g, 0, none⟩) (l.length + 1) (l.length + 1)), (14, .int .i64 ((l.length + 1 : Nat) : Int)), (15, .int .i64 ((k : Nat) : Int))] [tab 22 3 g (l.length + 1) (hd (m.length + 1) gs (l.length + 1)) (m.length + 1) gs (List.replicate (k) (List.replicate (m.length + 1) 0))] [slA A l, slA B m]) (fun _ _ h => h) ?_
 refine cs ?_
 refine cr ?_
 refine ls (op (p_icmp rfl rfl rfl) rfl) ?_
 refine ln ?_
 refine nthen ?_
 refine cs ?_
 refine cc rfl ?_ ?_
 ·
  intro h16
  dsimp only at hgk hk
  try simp only [decide_eq_true_eq, decide_eq_false_iff_not, Bool.not_eq_true', Bool.not_eq_false', Int.not_lt, Int.not_le, ge_iff_le, Bool.not_true, Bool.not_false] at h16
  subst hgk
  have hg1 : gs.length < l.length + 1 := by omega
  refine cskip ?_
  refine nthen ?_
  refine cs ?_
  refine cb ?_
  refine cs ?_
  refine cr ?_
  refine ls (op (p_move rfl) rfl) ?_
  refine ls (op (p_asg rfl) rfl) ?_
  refine ln ?_
  refine nthen ?_
  refine cr ?_
  refine ls (op (p_move rfl) rfl) ?_
  refine ls (op (p_move rfl) rfl) ?_
  refine ls (op (p_move rfl) rfl) ?_
  refine ls (op (p_lenl rfl Tryz.underlying37) rfl) ?_
  refine ls (op (p_add rfl rfl (by omega)) rfl) ?_
  refine ls (o_mk (0 : Int) () (m.length + 1) Tryz.underlying22 inf3 rfl (by decide) (fun _ _ p hp => by cases hp) (by omega) (by omega) rfl rfl (by omega) (by omega) rfl) ?_
  refine le ?_; intro b23
  rw [List.length_replicate]
  refine ls (op (p_ia gs.length rfl hg1 rfl Tryz.underlying179 Tryz.sizeOf22 rfl rfl) rfl) ?_
  refine ls (o_tput (i := 1) (k := 0) (j := gs.length) rfl Tryz.sizeOf22 rfl rfl rfl (by rw [hd_length (by omega)]; exact hg1) (hd_set hg1) List.replicate_succ'.symm) ?_
  refine ln ?_
  refine nblock ?_
  refine nthen ?_
  refine cr ?_
  refine ls (op (p_add rfl rfl (by omega)) rfl) ?_
  refine ls (op (p_move rfl) rfl) ?_
  refine ln ?_
  refine nnext ⟨(gs.length + 1, gs ++ [b23]), by simp, by dsimp only; omega⟩ (by dsimp only; omega) (wk0 (by repeat (first | exact subσ.nil _ | refine subσ.cons rfl ?_)) (by repeat' (first | constructor | apply Sub.suf)))
 ·
  intro h16
  dsimp only at hgk hk
  try simp only [decide_eq_true_eq, decide_eq_false_iff_not, Bool.not_eq_true', Bool.not_eq_false', Int.not_lt, Int.not_le, ge_iff_le, Bool.not_true, Bool.not_false] at h16
  obtain rfl : k = l.length + 1 := by omega
  have hgs : gs.length = l.length + 1 := hgk
  refine cexit ?_
  refine xthen ?_
  refine xthen ?_
  refine xblock ?_
  refine nthen ?_
  refine cs ?_
  refine cs ?_
  refine cr ?_
  refine ls (op (p_move rfl) rfl) ?_
  refine ls (op (p_lenl rfl Tryz.underlying37) rfl) ?_
  refine ls (op (p_sub rfl rfl (by omega)) rfl) ?_
  refine ls (op (p_asg rfl) rfl) ?_
  refine ln ?_
  refine nthen ?_
  refine cb ?_
  refine cl (ι := {p : Nat // p ≤ l.length}) (fun i => St M0 F0 w0 89 [(0, .slice A l.length c), (1, .slice B m.length c'), (5, .slice (some ⟨g, 0, none⟩) (l.length + 1) (l.length + 1)), (7, .int .i64 ((i.1 : Int) - 1))] [tab 22 3 g (l.length + 1) (hd (m.length + 1) gs (l.length + 1)) (m.length + 1) gs (mkT (l.length + 1) (m.length + 1) (tf l m (i.1) (m.length)))] [slA A l, slA B m]) (fun i => i.1) ⟨l.length, Nat.le_refl _⟩ ((fun a w h => by dsimp only; rw [← len_init]; exact wk0 (by repeat (first | exact subσ.nil _ | refine subσ.cons rfl ?_)) (by repeat' (first | constructor | apply Sub.suf)) a w h)) ?_
  rintro ⟨p, hp⟩
  refine cmono (S' := St M0 F0 w0 89 [(0, .slice A l.length c), (1, .slice B m.length c'), (5, .slice (some ⟨g, 0, none⟩) (l.length + 1) (l.length + 1)), (7, .int .i64 ((p : Int) - 1))] [tab 22 3 g (l.length + 1) (hd (m.length + 1) gs (l.length + 1)) (m.length + 1) gs (mkT (l.length + 1) (m.length + 1) (tf l m (p) (m.length)))] [slA A l, slA B m]) (fun _ _ h => h) ?_
  refine cs ?_
  refine cs ?_
  refine cr ?_
  refine ls (op (p_move rfl) rfl) ?_
  refine ls (op (p_icmp rfl rfl rfl) rfl) ?_
  refine ln ?_
  refine nthen ?_
  refine cc rfl ?_ ?_
  ·
   intro h30
   try simp only [decide_eq_true_eq, decide_eq_false_iff_not, Bool.not_eq_true', Bool.not_eq_false', Int.not_lt, Int.not_le, ge_iff_le, Bool.not_true, Bool.not_false] at h30
   obtain ⟨p, rfl⟩ : ∃ p', p = p' + 1 := ⟨p - 1, by omega⟩
   refine cskip ?_
   refine nthen ?_
   refine cs ?_
   refine cb ?_
   refine cs ?_
   refine cr ?_
   refine ls (op (p_move rfl) rfl) ?_
   refine ls (op (p_lenl rfl Tryz.underlying37) rfl) ?_
   refine ls (op (p_sub rfl rfl (by omega)) rfl) ?_
   refine ls (op (p_asg rfl) rfl) ?_
   refine ln ?_
   refine nthen ?_
   refine cb ?_
   refine cl (ι := {q : Nat // q ≤ m.length}) (fun i => St M0 F0 w0 89 [(0, .slice A l.length c), (1, .slice B m.length c'), (5, .slice (some ⟨g, 0, none⟩) (l.length + 1) (l.length + 1)), (7, .int .i64 (((p + 1 : Nat) : Int) - 1)), (8, .int .i64 ((i.1 : Int) - 1))] [tab 22 3 g (l.length + 1) (hd (m.length + 1) gs (l.length + 1)) (m.length + 1) gs (mkT (l.length + 1) (m.length + 1) (tf l m (p + 1) (i.1)))] [slA A l, slA B m]) (fun i => i.1) ⟨m.length, Nat.le_refl _⟩ (wk0 (by repeat (first | exact subσ.nil _ | refine subσ.cons rfl ?_)) (by repeat' (first | constructor | apply Sub.suf))) ?_
   rintro ⟨q, hq⟩
   refine cmono (S' := St M0 F0 w0 89 [(0, .slice A l.length c), (1, .slice B m.length c'), (5, .slice (some ⟨g, 0, none⟩) (l.length + 1) (l.length + 1)), (7, .int .i64 (((p + 1 : Nat) : Int) - 1)), (8, .int .i64 ((q : Int) - 1))] [tab 22 3 g (l.length + 1) (hd (m.length + 1) gs (l.length + 1)) (m.length + 1) gs (mkT (l.length + 1) (m.length + 1) (tf l m (p + 1) (q)))] [slA A l, slA B m]) (fun _ _ h => h) ?_
   refine cs ?_
   refine cs ?_
   refine cr ?_
   refine ls (op (p_move rfl) rfl) ?_
   refine ls (op (p_icmp rfl rfl rfl) rfl) ?_
   refine ln ?_
   refine nthen ?_
   refine cc rfl ?_ ?_
   ·
    intro h37
    try simp only [decide_eq_true_eq, decide_eq_false_iff_not, Bool.not_eq_true', Bool.not_eq_false', Int.not_lt, Int.not_le, ge_iff_le, Bool.not_true, Bool.not_false] at h37
    obtain ⟨q, rfl⟩ : ∃ q', q = q' + 1 := ⟨q - 1, by omega⟩
    have hp1 : p < l.length := by omega
    have hq1 : q < m.length := by omega
    refine cskip ?_
    refine nthen ?_
    refine cs ?_
    refine cb ?_
    refine cs ?_
    refine cdB [23] [(3, g, 0 + p * Rp.size Hdr, _), (9, g, 0 + (p + 1) * Rp.size Hdr, _), (12, gs[p + 1], 0 + q * Rp.size Int, _), (16, g, 0 + p * Rp.size Hdr, _), (20, gs[p], 0 + (q + 1) * Rp.size Int, _)] TryzX.mixed (by kernel_rfl) (by kernel_rfl) (TOk.t (isTabH (by repeat' constructor) (hd_at hgs (by omega))) (TOk.t (isTabH (by repeat' constructor) (hd_at hgs (by omega))) (TOk.t (isTabI (by repeat' constructor) (List.getElem?_eq_getElem (by omega : (p + 1) < gs.length)) (mkT_row (f := tf l m (p + 1) (q + 1)) (by omega)) (mkR_at (f := (tf l m (p + 1) (q + 1)) (p + 1)) (by omega))) (TOk.t (isTabH (by repeat' constructor) (hd_at hgs (by omega))) (TOk.t (isTabI (by repeat' constructor) (List.getElem?_eq_getElem (by omega : p < gs.length)) (mkT_row (f := tf l m (p + 1) (q + 1)) (by omega)) (mkR_at (f := (tf l m (p + 1) (q + 1)) p) (by omega))) TOk.d))))) ?_
    refine tkB 0 rfl (by kernel_rfl) (fun _ _ _ h => h) gnone (TTany _) (p_move rfl) rfl ?_
    refine tkB 1 rfl (by kernel_rfl) (fun _ _ _ h => h) gnone (TTany _) (p_move rfl) rfl ?_
    refine tkB 2 rfl (by kernel_rfl) (fun _ _ _ h => h) gnone (TTany _) (p_ia p rfl (by omega) (by omega) Tryz.underlying179 Tryz.sizeOf22 rfl rfl) rfl ?_
    refine tkB 3 rfl (by kernel_rfl) (fun _ _ _ h => h) gnone (TTat (List.Mem.head _)) (p_ld Tryz.isAgg22 rfl) rfl ?_
    refine tkB 4 rfl (by kernel_rfl) (fun _ _ _ h => h) gnone (TTany _) (p_move rfl) rfl ?_
    refine tkB 5 rfl (by kernel_rfl) (fun _ _ _ h => h) gnone (TTany _) (p_move rfl) rfl ?_
    refine tkB 6 rfl (by kernel_rfl) (fun _ _ _ h => h) gnone (TTany _) (p_move rfl) rfl ?_
    refine tkB 7 rfl (by kernel_rfl) (fun _ _ _ h => h) gnone (TTany _) (p_add rfl rfl (by omega)) rfl ?_
    refine tkB 8 rfl (by kernel_rfl) (fun _ _ _ h => h) gnone (TTany _) (p_ia (p + 1) rfl (by omega) (by omega) Tryz.underlying179 Tryz.sizeOf22 rfl rfl) rfl ?_
    refine tkB 9 rfl (by kernel_rfl) (fun _ _ _ h => h) gnone (TTat (List.Mem.tail _ (List.Mem.head _))) (p_ld Tryz.isAgg22 rfl) rfl ?_
    refine tkB 10 rfl (by kernel_rfl) (fun _ _ _ h => h) gnone (TTany _) (p_move rfl) rfl ?_
    refine tkB 11 rfl (by kernel_rfl) (fun _ _ _ h => h) gnone (TTany _) (p_ia q rfl (show q < m.length + 1 by omega) (by omega) Tryz.underlying22 Tryz.sizeOf3 rfl rfl) rfl ?_
    refine tkB 12 rfl (by kernel_rfl) (fun _ _ _ h => h) gnone (TTat (List.Mem.tail _ (List.Mem.tail _ (List.Mem.head _)))) (p_ld Tryz.isAgg3 rfl) rfl ?_
    refine tkB 13 rfl (by kernel_rfl) (fun _ _ _ h => h) gnone (TTany _) (p_move rfl) rfl ?_
    refine tkB 14 rfl (by kernel_rfl) (fun _ _ _ h => h) gnone (TTany _) (p_move rfl) rfl ?_
    refine tkB 15 rfl (by kernel_rfl) (fun _ _ _ h => h) gnone (TTany _) (p_ia p rfl (by omega) (by omega) Tryz.underlying179 Tryz.sizeOf22 rfl rfl) rfl ?_
    refine tkB 16 rfl (by kernel_rfl) (fun _ _ _ h => h) gnone (TTat (List.Mem.tail _ (List.Mem.tail _ (List.Mem.tail _ (List.Mem.head _))))) (p_ld Tryz.isAgg22 rfl) rfl ?_
    refine tkB 17 rfl (by kernel_rfl) (fun _ _ _ h => h) gnone (TTany _) (p_move rfl) rfl ?_
    refine tkB 18 rfl (by kernel_rfl) (fun _ _ _ h => h) gnone (TTany _) (p_add rfl rfl (by omega)) rfl ?_
    refine tkB 19 rfl (by kernel_rfl) (fun _ _ _ h => h) gnone (TTany _) (p_ia (q + 1) rfl (show (q + 1) < m.length + 1 by omega) (by omega) Tryz.underlying22 Tryz.sizeOf3 rfl rfl) rfl ?_
    refine tkB 20 rfl (by kernel_rfl) (fun _ _ _ h => h) gnone (TTat (List.Mem.tail _ (List.Mem.tail _ (List.Mem.tail _ (List.Mem.tail _ (List.Mem.head _)))))) (p_ld Tryz.isAgg3 rfl) rfl ?_
    refine tkB 21 rfl (by kernel_rfl) (fun _ _ _ h => h) gnone (TTany _) (p_max rfl rfl) rfl ?_
    refine tkB 22 rfl (by kernel_rfl) (fun _ _ _ h => h) gnone (TTany _) (p_ia q rfl (show q < m.length + 1 by omega) (by omega) Tryz.underlying22 Tryz.sizeOf3 rfl rfl) rfl ?_
    refine dfB 23 (by kernel_rfl) ?_
    refine doRB rfl (o_tst (j := p) (k := q) (b := gs[p]) (l := (List.range (m.length + 1)).map ((tf l m (p + 1) (q + 1)) p)) (z := max (tf l m (p + 1) (q + 1) (p + 1) q) (tf l m (p + 1) (q + 1) p (q + 1))) (yz := ()) rfl Tryz.sizeOf3 rfl rfl rfl (by repeat' constructor) (List.getElem?_eq_getElem (by omega : p < gs.length)) (mkT_row (by omega)) (by rw [mkR_length]; omega) (mkT_set (g := upF (tf l m (p + 1) (q + 1)) p q (max (tf l m (p + 1) (q + 1) (p + 1) q) (tf l m (p + 1) (q + 1) p (q + 1)))) (fun _ _ _ _ => rfl)) (by repeat' constructor) (by repeat' (first | constructor | apply Sub.suf))) (TOk.xP 23 [] (by kernel_rfl) (TOk.xP 23 [] (by kernel_rfl) (TOk.xP 23 [] (by kernel_rfl) (TOk.xP 23 [] (by kernel_rfl) (TOk.xP 23 [] (by kernel_rfl) TOk.d))))) ?_
    refine dnB (by kernel_rfl) ?_
    refine nthen ?_
    refine cs ?_
    refine elC (A := A) (l := l) (by repeat' constructor) p (List.getElem?_eq_getElem (l := l) hp1) ?_; rintro zba zoa zya hAa
    refine elC (A := B) (l := m) (by repeat' constructor) q (List.getElem?_eq_getElem (l := m) hq1) ?_; rintro zbb zob zyb hAb
    refine cdB [] [(3, zba, zoa + p * Rp.size ByteArray, _), (7, zbb, zob + q * Rp.size ByteArray, _)] TryzX.mixed (by kernel_rfl) (by kernel_rfl) (TOk.t (isInS (by repeat' constructor) (k := 0) rfl (z := 1) (by repeat (first | exact Cut.d | apply Cut.t | apply Cut.s))) (TOk.t (isInS (by repeat' constructor) (k := 0) rfl (z := 1) (by repeat (first | exact Cut.d | apply Cut.t | apply Cut.s))) TOk.d)) ?_
    refine tkB 0 rfl (by kernel_rfl) (fun _ _ _ h => h) gnone (TTany _) (p_move rfl) rfl ?_
    refine tkB 1 rfl (by kernel_rfl) (fun _ _ _ h => h) gnone (TTany _) (p_move rfl) rfl ?_
    refine tkB 2 rfl (by kernel_rfl) (fun _ _ _ h => h) gnone (TTany _) (p_ia p hAa hp1 (by omega) Tryz.underlying37 Tryz.sizeOf9 rfl rfl) rfl ?_
    refine tkB 3 rfl (by kernel_rfl) (fun _ _ _ h => h) gnone (TTat (List.Mem.head _)) (p_ld Tryz.isAgg9 rfl) rfl ?_
    refine tkB 4 rfl (by kernel_rfl) (fun _ _ _ h => h) gnone (TTany _) (p_move rfl) rfl ?_
    refine tkB 5 rfl (by kernel_rfl) (fun _ _ _ h => h) gnone (TTany _) (p_move rfl) rfl ?_
    refine tkB 6 rfl (by kernel_rfl) (fun _ _ _ h => h) gnone (TTany _) (p_ia q hAb hq1 (by omega) Tryz.underlying37 Tryz.sizeOf9 rfl rfl) rfl ?_
    refine tkB 7 rfl (by kernel_rfl) (fun _ _ _ h => h) gnone (TTat (List.Mem.tail _ (List.Mem.head _))) (p_ld Tryz.isAgg9 rfl) rfl ?_
    refine tkB 8 rfl (by kernel_rfl) (fun _ _ _ h => h) gnone (TTany _) (p_seq rfl rfl) rfl ?_
    refine dnB (by kernel_rfl) ?_
    refine nthen ?_
    refine cc rfl ?_ ?_
    ·
     intro h71
     try simp only [decide_eq_true_eq, decide_eq_false_iff_not, Bool.not_eq_true', Bool.not_eq_false', Int.not_lt, Int.not_le, ge_iff_le, Bool.not_true, Bool.not_false] at h71
     refine cdB [16] [(3, g, 0 + p * Rp.size Hdr, _), (9, g, 0 + (p + 1) * Rp.size Hdr, _), (13, gs[p + 1], 0 + (q + 1) * Rp.size Int, _)] TryzX.mixed (by kernel_rfl) (by kernel_rfl) (TOk.t (isTabH (by repeat' constructor) (hd_at hgs (by omega))) (TOk.t (isTabH (by repeat' constructor) (hd_at hgs (by omega))) (TOk.t (isTabI (by repeat' constructor) (List.getElem?_eq_getElem (by omega : (p + 1) < gs.length)) (mkT_row (f := upF (tf l m (p + 1) (q + 1)) p q (max (tf l m (p + 1) (q + 1) (p + 1) q) (tf l m (p + 1) (q + 1) p (q + 1)))) (by omega)) (mkR_at (f := (upF (tf l m (p + 1) (q + 1)) p q (max (tf l m (p + 1) (q + 1) (p + 1) q) (tf l m (p + 1) (q + 1) p (q + 1)))) (p + 1)) (by omega))) TOk.d))) ?_
     refine tkB 0 rfl (by kernel_rfl) (fun _ _ _ h => h) gnone (TTany _) (p_move rfl) rfl ?_
     refine tkB 1 rfl (by kernel_rfl) (fun _ _ _ h => h) gnone (TTany _) (p_move rfl) rfl ?_
     refine tkB 2 rfl (by kernel_rfl) (fun _ _ _ h => h) gnone (TTany _) (p_ia p rfl (by omega) (by omega) Tryz.underlying179 Tryz.sizeOf22 rfl rfl) rfl ?_
     refine tkB 3 rfl (by kernel_rfl) (fun _ _ _ h => h) gnone (TTat (List.Mem.head _)) (p_ld Tryz.isAgg22 rfl) rfl ?_
     refine tkB 4 rfl (by kernel_rfl) (fun _ _ _ h => h) gnone (TTany _) (p_move rfl) rfl ?_
     refine tkB 5 rfl (by kernel_rfl) (fun _ _ _ h => h) gnone (TTany _) (p_move rfl) rfl ?_
     refine tkB 6 rfl (by kernel_rfl) (fun _ _ _ h => h) gnone (TTany _) (p_move rfl) rfl ?_
     refine tkB 7 rfl (by kernel_rfl) (fun _ _ _ h => h) gnone (TTany _) (p_add rfl rfl (by omega)) rfl ?_
     refine tkB 8 rfl (by kernel_rfl) (fun _ _ _ h => h) gnone (TTany _) (p_ia (p + 1) rfl (by omega) (by omega) Tryz.underlying179 Tryz.sizeOf22 rfl rfl) rfl ?_
     refine tkB 9 rfl (by kernel_rfl) (fun _ _ _ h => h) gnone (TTat (List.Mem.tail _ (List.Mem.head _))) (p_ld Tryz.isAgg22 rfl) rfl ?_
     refine tkB 10 rfl (by kernel_rfl) (fun _ _ _ h => h) gnone (TTany _) (p_move rfl) rfl ?_
     refine tkB 11 rfl (by kernel_rfl) (fun _ _ _ h => h) gnone (TTany _) (p_add rfl rfl (by omega)) rfl ?_
     refine tkB 12 rfl (by kernel_rfl) (fun _ _ _ h => h) gnone (TTany _) (p_ia (q + 1) rfl (show (q + 1) < m.length + 1 by omega) (by omega) Tryz.underlying22 Tryz.sizeOf3 rfl rfl) rfl ?_
     refine tkB 13 rfl (by kernel_rfl) (fun _ _ _ h => h) gnone (TTat (List.Mem.tail _ (List.Mem.tail _ (List.Mem.head _)))) (p_ld Tryz.isAgg3 rfl) rfl ?_
     refine tkB 14 rfl (by kernel_rfl) (fun _ _ _ h => h) gnone (TTany _) (p_add rfl rfl (by rw [upF_at, if_neg (by omega), tf_in (.inl (Nat.le_refl _))]; have := cmn_le (a := l) (b := m) (i := p + 1) (k := q + 1); omega)) rfl ?_
     refine tkB 15 rfl (by kernel_rfl) (fun _ _ _ h => h) gnone (TTany _) (p_ia q rfl (show q < m.length + 1 by omega) (by omega) Tryz.underlying22 Tryz.sizeOf3 rfl rfl) rfl ?_
     refine dfB 16 (by kernel_rfl) ?_
     refine doRB rfl (o_tst (j := p) (k := q) (b := gs[p]) (l := (List.range (m.length + 1)).map ((upF (tf l m (p + 1) (q + 1)) p q (max (tf l m (p + 1) (q + 1) (p + 1) q) (tf l m (p + 1) (q + 1) p (q + 1)))) p)) (z := (upF (tf l m (p + 1) (q + 1)) p q (max (tf l m (p + 1) (q + 1) (p + 1) q) (tf l m (p + 1) (q + 1) p (q + 1)))) (p + 1) (q + 1) + 1) (yz := ()) rfl Tryz.sizeOf3 rfl rfl rfl (by repeat' constructor) (List.getElem?_eq_getElem (by omega : p < gs.length)) (mkT_row (by omega)) (by rw [mkR_length]; omega) (mkT_set (g := upF (upF (tf l m (p + 1) (q + 1)) p q (max (tf l m (p + 1) (q + 1) (p + 1) q) (tf l m (p + 1) (q + 1) p (q + 1)))) p q ((upF (tf l m (p + 1) (q + 1)) p q (max (tf l m (p + 1) (q + 1) (p + 1) q) (tf l m (p + 1) (q + 1) p (q + 1)))) (p + 1) (q + 1) + 1)) (fun _ _ _ _ => rfl)) (by repeat' constructor) (by repeat' (first | constructor | apply Sub.suf))) (TOk.xP 16 [] (by kernel_rfl) (TOk.xP 16 [] (by kernel_rfl) (TOk.xP 16 [] (by kernel_rfl) TOk.d))) ?_
     refine dnB (by kernel_rfl) ?_
     refine nblock ?_
     refine nthen ?_
     refine cr ?_
     refine ls (op (p_move rfl) rfl) ?_
     refine ls (op (p_sub rfl rfl (by omega)) rfl) ?_
     refine fixL (v' := .int .i64 ((q : Int) - 1)) (by congr 1; omega) ?_
     refine ls (op (p_asg rfl) rfl) ?_
     refine ln ?_
     refine nnext ⟨q, by omega⟩ (by dsimp only; omega) (fun a w h => by dsimp only; rw [← len_eq hp1 hq1 h71]; exact wk0 (by repeat (first | exact subσ.nil _ | refine subσ.cons rfl ?_)) (by repeat' (first | constructor | apply Sub.suf)) a w h)
    ·
     intro h71
     try simp only [decide_eq_true_eq, decide_eq_false_iff_not, Bool.not_eq_true', Bool.not_eq_false', Int.not_lt, Int.not_le, ge_iff_le, Bool.not_true, Bool.not_false] at h71
     refine cskip ?_
     refine nblock ?_
     refine nthen ?_
     refine cr ?_
     refine ls (op (p_move rfl) rfl) ?_
     refine ls (op (p_sub rfl rfl (by omega)) rfl) ?_
     refine fixL (v' := .int .i64 ((q : Int) - 1)) (by congr 1; omega) ?_
     refine ls (op (p_asg rfl) rfl) ?_
     refine ln ?_
     refine nnext ⟨q, by omega⟩ (by dsimp only; omega) (fun a w h => by dsimp only; rw [← len_ne hp1 hq1 h71]; exact wk0 (by repeat (first | exact subσ.nil _ | refine subσ.cons rfl ?_)) (by repeat' (first | constructor | apply Sub.suf)) a w h)
   ·
    intro h37
    try simp only [decide_eq_true_eq, decide_eq_false_iff_not, Bool.not_eq_true', Bool.not_eq_false', Int.not_lt, Int.not_le, ge_iff_le, Bool.not_true, Bool.not_false] at h37
    obtain rfl : q = 0 := by omega
    refine cexit ?_
    refine xthen ?_
    refine xthen ?_
    refine xblock ?_
    refine nblock ?_
    refine nthen ?_
    refine cr ?_
    refine ls (op (p_move rfl) rfl) ?_
    refine ls (op (p_sub rfl rfl (by omega)) rfl) ?_
    refine fixL (v' := .int .i64 ((p : Int) - 1)) (by congr 1; omega) ?_
    refine ls (op (p_asg rfl) rfl) ?_
    refine ln ?_
    refine nnext ⟨p, by omega⟩ (by dsimp only; omega) (fun a w h => by dsimp only; rw [← len_row l m p (by omega)]; exact wk0 (by repeat (first | exact subσ.nil _ | refine subσ.cons rfl ?_)) (by repeat' (first | constructor | apply Sub.suf)) a w h)
  ·
   intro h30
   try simp only [decide_eq_true_eq, decide_eq_false_iff_not, Bool.not_eq_true', Bool.not_eq_false', Int.not_lt, Int.not_le, ge_iff_le, Bool.not_true, Bool.not_false] at h30
   obtain rfl : p = 0 := by omega
   refine cexit ?_
   refine xthen ?_
   refine xthen ?_
   refine xblock ?_
   refine nthen ?_
   refine cs ?_
   refine cmono (fun a w h => freezeTab (i := 0) rfl (hd_all hgs) mkT_mem h) ?_
   refine cr ?_
   refine ls (op (p_move rfl) rfl) ?_
   refine ls (op (p_asg rfl) rfl) ?_
   refine ln ?_
   refine nthen ?_
   refine cret ?_
   refine xret (fun _ _ h => h) ?_
   refine rret (is := []) (some ⟨g, 0, none⟩, l.length + 1) (Or.inl rfl) (Res.t rfl Res.d) (rfl) rfl (by repeat' (first | constructor | apply Sub.suf))

set_option maxRecDepth 100000 in
theorem c_dCommon (l m : List ByteArray) (A B : Option Addr) (c c' : Nat) (hl : l.length ≤ 1000000) (hm : m.length ≤ 1000000) : Con Tryz.prog 66 [.slice A l.length c, .slice B m.length c'] [] [slA A l, slA B m] {x : List (Nat × Nat) × (Option Addr × Nat) // (longB l m = true → x.1 = []) ∧ (longB l m = false → Comm l m x.1)} (fun x => .slice x.1.2.1 x.1.1.length x.1.2.2) (fun x => [row 111 x.1.2.1 x.1.2.2 x.1.1]) (fun _ => []) := by
 refine con Tryz.func66 rfl Tryz.ntmps66 rfl ?_
 intro M0 F0 w0
 refine cs ?_
 refine cr ?_
 refine ls (op (p_asg rfl) rfl) ?_
 refine ln ?_
 refine nthen ?_
 refine cscope ?_
 refine cs ?_
 refine cs ?_
 refine cr ?_
 refine ls (op (p_move rfl) rfl) ?_
 refine ls (op (p_move rfl) rfl) ?_
 refine ls (o_call (is := []) Tryz.call68 (c_dLong l m A B c c') rfl rfl (by repeat' (first | constructor | apply Sub.suf)) rfl) ?_
 refine le ?_; intro x13
 refine ln ?_
 refine nthen ?_
 refine cc rfl ?_ ?_
 ·
  intro h13
  skip
  refine cs ?_
  refine cmono (fun a w h => nilRow (α := Nat × Nat) 111 h) ?_
  refine cr ?_
  refine ls (op (p_asg rfl) rfl) ?_
  refine ln ?_
  refine nthen ?_
  refine cret ?_
  refine xret (fun _ _ h => h) ?_
  refine rret (is := [0]) ⟨([], (none, 0)), fun _ => rfl, fun h => by rw [h13] at h; cases h⟩ (Or.inl rfl) (Res.t rfl Res.d) (rfl) rfl (by repeat' (first | constructor | apply Sub.suf))
 ·
  intro h13
  obtain ⟨hl2, hm2⟩ := longB_no h13
  refine cskip ?_
  refine nthen ?_
  refine cs ?_
  refine cr ?_
  refine ls (op (p_move rfl) rfl) ?_
  refine ls (op (p_move rfl) rfl) ?_
  refine ls (o_call (is := []) Tryz.call120 (c_dLengths l m A B c c' hl2 hm2) rfl rfl (by repeat' (first | constructor | apply Sub.suf)) rfl) ?_
  refine le ?_; rintro ⟨A5, c5⟩
  refine ls (op (p_asg rfl) rfl) ?_
  refine ln ?_
  refine nthen ?_
  refine cs ?_
  refine cmono (fun a w h => nilRow (α := Nat × Nat) 111 h) ?_
  refine cr ?_
  refine ls (op (p_asg rfl) rfl) ?_
  refine ln ?_
  refine nthen ?_
  refine cs ?_
  refine cr ?_
  refine ls (op (p_asg rfl) rfl) ?_
  refine ls (op (p_asg rfl) rfl) ?_
  refine ln ?_
  refine nthen ?_
  refine cs ?_
  refine clabel ?_
  refine nthen ?_
  refine cs ?_
  refine cb ?_
  refine cl (ι := {q : List (Nat × Nat) × (Nat × Nat) × (Option Addr × Nat) // Chain l m q.1 q.2.1.1 q.2.1.2}) (fun i => St M0 F0 w0 76 [(0, .slice A l.length c), (1, .slice B m.length c'), (5, .slice A5 (l.length + 1) c5), (6, .slice i.1.2.2.1 (i.1.1).length i.1.2.2.2), (7, .int .i64 ((i.1.2.1.1 : Nat) : Int)), (8, .int .i64 ((i.1.2.1.2 : Nat) : Int))] [row 111 (i.1.2.2.1) (i.1.2.2.2) i.1.1] [slA A l, slA B m, slA A5 (mkT (l.length + 1) (m.length + 1) (tf l m (0) (m.length)))]) (fun i => cmn l m (i.1.2.1.1) (i.1.2.1.2)) ⟨([], (0, 0), (none, 0)), Chain.nil⟩ (wk0 (by repeat (first | exact subσ.nil _ | refine subσ.cons rfl ?_)) (by repeat' (first | constructor | apply Sub.suf))) ?_
  rintro ⟨⟨o, ⟨u, k⟩, ⟨A6, c6⟩⟩, hch⟩
  refine cmono (S' := St M0 F0 w0 76 [(0, .slice A l.length c), (1, .slice B m.length c'), (5, .slice A5 (l.length + 1) c5), (6, .slice A6 (o).length c6), (7, .int .i64 ((u : Nat) : Int)), (8, .int .i64 ((k : Nat) : Int))] [row 111 (A6) (c6) o] [slA A l, slA B m, slA A5 (mkT (l.length + 1) (m.length + 1) (tf l m (0) (m.length)))]) (fun _ _ h => h) ?_
  refine cs ?_
  refine cs ?_
  dsimp only at hch
  have hle := hch.le
  refine elC (A := A5) (l := mkT (l.length + 1) (m.length + 1) (tf l m (0) (m.length))) (by repeat' constructor) u (mkT_row (by omega)) ?_; rintro zbt zot zyt hAt
  refine elC (A := zyt.1) (l := (List.range (m.length + 1)).map ((tf l m (0) (m.length)) u)) (by repeat' constructor) k (mkR_at (by omega)) ?_; rintro zbu zou zyu hAu
  refine cr ?_
  refine ls (op (p_move rfl) rfl) ?_
  refine ls (op (p_move rfl) rfl) ?_
  refine ls (op (p_ia u hAt (by omega) rfl Tryz.underlying179 Tryz.sizeOf22 rfl rfl) rfl) ?_
  refine ls (o_ldi Tryz.isAgg22 rfl (by repeat' constructor) 0 rfl (by repeat (first | exact Cut.d | apply Cut.t | apply Cut.s)) rfl) ?_
  refine ls (op (p_move rfl) rfl) ?_
  refine ls (op (p_ia k hAu (by rw [mkR_length]; omega) rfl Tryz.underlying22 Tryz.sizeOf3 rfl rfl) rfl) ?_
  refine ls (o_ldi Tryz.isAgg3 rfl (by repeat' constructor) 0 rfl (by repeat (first | exact Cut.d | apply Cut.t | apply Cut.s)) rfl) ?_
  refine ls (op (p_icmp rfl rfl rfl) rfl) ?_
  refine ln ?_
  refine nthen ?_
  refine cc rfl ?_ ?_
  ·
   intro h24
   have hpos : 0 < cmn l m u k := by have h := h24; rw [tf0] at h; simp at h; omega
   refine cskip ?_
   refine nthen ?_
   refine cb ?_
   refine cs ?_
   refine cr ?_
   refine ls (op (p_move rfl) rfl) ?_
   refine ls (op (p_asg rfl) rfl) ?_
   refine ln ?_
   refine nthen ?_
   refine cb ?_
   refine cl (ι := {x : Nat // u ≤ x ∧ x ≤ l.length ∧ NoneB l m u k x k}) (fun i => St M0 F0 w0 76 [(0, .slice A l.length c), (1, .slice B m.length c'), (5, .slice A5 (l.length + 1) c5), (6, .slice A6 (o).length c6), (7, .int .i64 ((u : Nat) : Int)), (8, .int .i64 ((k : Nat) : Int)), (9, .int .i64 ((i.1 : Nat) : Int))] [row 111 A6 c6 o] [slA A l, slA B m, slA A5 (mkT (l.length + 1) (m.length + 1) (tf l m (0) (m.length)))]) (fun i => l.length - i.1) ⟨u, Nat.le_refl _, hle.1, noneB_0 l m u k⟩ (wk0 (by repeat (first | exact subσ.nil _ | refine subσ.cons rfl ?_)) (by repeat' (first | constructor | apply Sub.suf))) ?_
   rintro ⟨x, hix, hxl, hnx⟩
   refine cmono (S' := St M0 F0 w0 76 [(0, .slice A l.length c), (1, .slice B m.length c'), (5, .slice A5 (l.length + 1) c5), (6, .slice A6 (o).length c6), (7, .int .i64 ((u : Nat) : Int)), (8, .int .i64 ((k : Nat) : Int)), (9, .int .i64 ((x : Nat) : Int))] [row 111 A6 c6 o] [slA A l, slA B m, slA A5 (mkT (l.length + 1) (m.length + 1) (tf l m (0) (m.length)))]) (fun _ _ h => h) ?_
   refine cs ?_
   refine cs ?_
   refine cr ?_
   refine ls (op (p_move rfl) rfl) ?_
   refine ls (op (p_move rfl) rfl) ?_
   refine ls (op (p_lenl rfl Tryz.underlying37) rfl) ?_
   refine ls (op (p_icmp rfl rfl rfl) rfl) ?_
   refine ln ?_
   refine nthen ?_
   refine cc rfl ?_ ?_
   ·
    intro h29
    try simp only [decide_eq_true_eq, decide_eq_false_iff_not, Bool.not_eq_true', Bool.not_eq_false', Int.not_lt, Int.not_le, ge_iff_le, Bool.not_true, Bool.not_false] at h29
    have hx1 : x < l.length := by omega
    refine cskip ?_
    refine nthen ?_
    refine cs ?_
    refine cb ?_
    refine cs ?_
    refine cr ?_
    refine ls (op (p_move rfl) rfl) ?_
    refine ls (op (p_asg rfl) rfl) ?_
    refine ln ?_
    refine nthen ?_
    refine cb ?_
    refine cl (ι := {y : Nat // k ≤ y ∧ y ≤ m.length ∧ NoneB l m u k x y}) (fun i => St M0 F0 w0 76 [(0, .slice A l.length c), (1, .slice B m.length c'), (5, .slice A5 (l.length + 1) c5), (6, .slice A6 (o).length c6), (7, .int .i64 ((u : Nat) : Int)), (8, .int .i64 ((k : Nat) : Int)), (9, .int .i64 ((x : Nat) : Int)), (10, .int .i64 ((i.1 : Nat) : Int))] [row 111 A6 c6 o] [slA A l, slA B m, slA A5 (mkT (l.length + 1) (m.length + 1) (tf l m (0) (m.length)))]) (fun i => m.length - i.1) ⟨k, Nat.le_refl _, hle.2, hnx⟩ (wk0 (by repeat (first | exact subσ.nil _ | refine subσ.cons rfl ?_)) (by repeat' (first | constructor | apply Sub.suf))) ?_
    rintro ⟨y, hky, hyl, hny⟩
    refine cmono (S' := St M0 F0 w0 76 [(0, .slice A l.length c), (1, .slice B m.length c'), (5, .slice A5 (l.length + 1) c5), (6, .slice A6 (o).length c6), (7, .int .i64 ((u : Nat) : Int)), (8, .int .i64 ((k : Nat) : Int)), (9, .int .i64 ((x : Nat) : Int)), (10, .int .i64 ((y : Nat) : Int))] [row 111 A6 c6 o] [slA A l, slA B m, slA A5 (mkT (l.length + 1) (m.length + 1) (tf l m (0) (m.length)))]) (fun _ _ h => h) ?_
    refine cs ?_
    refine cs ?_
    refine cr ?_
    refine ls (op (p_move rfl) rfl) ?_
    refine ls (op (p_move rfl) rfl) ?_
    refine ls (op (p_lenl rfl Tryz.underlying37) rfl) ?_
    refine ls (op (p_icmp rfl rfl rfl) rfl) ?_
    refine ln ?_
    refine nthen ?_
    refine cc rfl ?_ ?_
    ·
     intro h36
     try simp only [decide_eq_true_eq, decide_eq_false_iff_not, Bool.not_eq_true', Bool.not_eq_false', Int.not_lt, Int.not_le, ge_iff_le, Bool.not_true, Bool.not_false] at h36
     have hy1 : y < m.length := by omega
     refine cskip ?_
     refine nthen ?_
     refine cs ?_
     refine cb ?_
     refine cs ?_
     rcases Classical.em (l[x] = m[y]) with heq | heq
     ·
      refine elC (A := A) (l := l) (by repeat' constructor) x (List.getElem?_eq_getElem (l := l) hx1) ?_; rintro zba zoa zya hAa
      refine elC (A := B) (l := m) (by repeat' constructor) y (List.getElem?_eq_getElem (l := m) hy1) ?_; rintro zbb zob zyb hAb
      refine elC (A := A5) (l := mkT (l.length + 1) (m.length + 1) (tf l m (0) (m.length))) (by repeat' constructor) x (mkT_row (by omega)) ?_; rintro zbt2 zot2 zyt2 hAt2
      refine elC (A := zyt2.1) (l := (List.range (m.length + 1)).map ((tf l m (0) (m.length)) x)) (by repeat' constructor) y (mkR_at (by omega)) ?_; rintro zbu2 zou2 zyu2 hAu2
      refine elC (A := A5) (l := mkT (l.length + 1) (m.length + 1) (tf l m (0) (m.length))) (by repeat' constructor) u (mkT_row (by omega)) ?_; rintro zbt3 zot3 zyt3 hAt3
      refine elC (A := zyt3.1) (l := (List.range (m.length + 1)).map ((tf l m (0) (m.length)) u)) (by repeat' constructor) k (mkR_at (by omega)) ?_; rintro zbu3 zou3 zyu3 hAu3
      refine cdB [] [(3, zba, zoa + x * Rp.size ByteArray, _), (7, zbb, zob + y * Rp.size ByteArray, _), (13, zbt2, zot2 + x * Rp.size (List Int), _), (16, zbu2, zou2 + y * Rp.size Int, _), (20, zbt3, zot3 + u * Rp.size (List Int), _), (23, zbu3, zou3 + k * Rp.size Int, _)] TryzX.mixed (by kernel_rfl) (by kernel_rfl) (TOk.t (isInS (by repeat' constructor) (k := 0) rfl (z := 1) (by repeat (first | exact Cut.d | apply Cut.t | apply Cut.s))) (TOk.t (isInS (by repeat' constructor) (k := 0) rfl (z := 1) (by repeat (first | exact Cut.d | apply Cut.t | apply Cut.s))) (TOk.t (isInS (by repeat' constructor) (k := 0) rfl (z := 1) (by repeat (first | exact Cut.d | apply Cut.t | apply Cut.s))) (TOk.t (isInS (by repeat' constructor) (k := 0) rfl (z := 1) (by repeat (first | exact Cut.d | apply Cut.t | apply Cut.s))) (TOk.t (isInS (by repeat' constructor) (k := 0) rfl (z := 1) (by repeat (first | exact Cut.d | apply Cut.t | apply Cut.s))) (TOk.t (isInS (by repeat' constructor) (k := 0) rfl (z := 1) (by repeat (first | exact Cut.d | apply Cut.t | apply Cut.s))) TOk.d)))))) ?_
      refine tkB 0 rfl (by kernel_rfl) (fun _ _ _ h => h) gnone (TTany _) (p_move rfl) rfl ?_
      refine tkB 1 rfl (by kernel_rfl) (fun _ _ _ h => h) gnone (TTany _) (p_move rfl) rfl ?_
      refine tkB 2 rfl (by kernel_rfl) (fun _ _ _ h => h) gnone (TTany _) (p_ia x hAa hx1 rfl Tryz.underlying37 Tryz.sizeOf9 rfl rfl) rfl ?_
      refine tkB 3 rfl (by kernel_rfl) (fun _ _ _ h => h) gnone (TTat (List.Mem.head _)) (p_ld Tryz.isAgg9 rfl) rfl ?_
      refine tkB 4 rfl (by kernel_rfl) (fun _ _ _ h => h) gnone (TTany _) (p_move rfl) rfl ?_
      refine tkB 5 rfl (by kernel_rfl) (fun _ _ _ h => h) gnone (TTany _) (p_move rfl) rfl ?_
      refine tkB 6 rfl (by kernel_rfl) (fun _ _ _ h => h) gnone (TTany _) (p_ia y hAb hy1 rfl Tryz.underlying37 Tryz.sizeOf9 rfl rfl) rfl ?_
      refine tkB 7 rfl (by kernel_rfl) (fun _ _ _ h => h) gnone (TTat (List.Mem.tail _ (List.Mem.head _))) (p_ld Tryz.isAgg9 rfl) rfl ?_
      refine tkB 8 rfl (by kernel_rfl) (fun _ _ _ h => h) gnone (TTany _) (p_seq rfl rfl) rfl ?_
      refine fixB (congrArg Value.bool (decide_eq_true heq)) ?_
      refine tkB 9 rfl (by kernel_rfl) (fun _ _ _ h => h) gnone (TTany _) (p_move rfl) rfl ?_
      refine tkB 10 rfl (by kernel_rfl) (fun _ _ _ h => h) (gyes rfl rfl rfl rfl) (TTany _) (p_move rfl) rfl ?_
      refine tkB 11 rfl (by kernel_rfl) (fun _ _ _ h => h) (gyes rfl rfl rfl rfl) (TTany _) (p_move rfl) rfl ?_
      refine tkB 12 rfl (by kernel_rfl) (fun _ _ _ h => h) (gyes rfl rfl rfl rfl) (TTany _) (p_ia x hAt2 (by first | omega | (rw [mkR_length]; omega)) rfl Tryz.underlying179 Tryz.sizeOf22 rfl rfl) rfl ?_
      refine tkB 13 rfl (by kernel_rfl) (fun _ _ _ h => h) (gyes rfl rfl rfl rfl) (TTat (List.Mem.tail _ (List.Mem.tail _ (List.Mem.head _)))) (p_ld Tryz.isAgg22 rfl) rfl ?_
      refine tkB 14 rfl (by kernel_rfl) (fun _ _ _ h => h) (gyes rfl rfl rfl rfl) (TTany _) (p_move rfl) rfl ?_
      refine tkB 15 rfl (by kernel_rfl) (fun _ _ _ h => h) (gyes rfl rfl rfl rfl) (TTany _) (p_ia y hAu2 (by first | omega | (rw [mkR_length]; omega)) rfl Tryz.underlying22 Tryz.sizeOf3 rfl rfl) rfl ?_
      refine tkB 16 rfl (by kernel_rfl) (fun _ _ _ h => h) (gyes rfl rfl rfl rfl) (TTat (List.Mem.tail _ (List.Mem.tail _ (List.Mem.tail _ (List.Mem.head _))))) (p_ld Tryz.isAgg3 rfl) rfl ?_
      refine tkB 17 rfl (by kernel_rfl) (fun _ _ _ h => h) (gyes rfl rfl rfl rfl) (TTany _) (p_move rfl) rfl ?_
      refine tkB 18 rfl (by kernel_rfl) (fun _ _ _ h => h) (gyes rfl rfl rfl rfl) (TTany _) (p_move rfl) rfl ?_
      refine tkB 19 rfl (by kernel_rfl) (fun _ _ _ h => h) (gyes rfl rfl rfl rfl) (TTany _) (p_ia u hAt3 (by first | omega | (rw [mkR_length]; omega)) rfl Tryz.underlying179 Tryz.sizeOf22 rfl rfl) rfl ?_
      refine tkB 20 rfl (by kernel_rfl) (fun _ _ _ h => h) (gyes rfl rfl rfl rfl) (TTat (List.Mem.tail _ (List.Mem.tail _ (List.Mem.tail _ (List.Mem.tail _ (List.Mem.head _)))))) (p_ld Tryz.isAgg22 rfl) rfl ?_
      refine tkB 21 rfl (by kernel_rfl) (fun _ _ _ h => h) (gyes rfl rfl rfl rfl) (TTany _) (p_move rfl) rfl ?_
      refine tkB 22 rfl (by kernel_rfl) (fun _ _ _ h => h) (gyes rfl rfl rfl rfl) (TTany _) (p_ia k hAu3 (by first | omega | (rw [mkR_length]; omega)) rfl Tryz.underlying22 Tryz.sizeOf3 rfl rfl) rfl ?_
      refine tkB 23 rfl (by kernel_rfl) (fun _ _ _ h => h) (gyes rfl rfl rfl rfl) (TTat (List.Mem.tail _ (List.Mem.tail _ (List.Mem.tail _ (List.Mem.tail _ (List.Mem.tail _ (List.Mem.head _))))))) (p_ld Tryz.isAgg3 rfl) rfl ?_
      refine tkB 24 rfl (by kernel_rfl) (fun _ _ _ h => h) (gyes rfl rfl rfl rfl) (TTany _) (p_icmp rfl rfl rfl) rfl ?_
      refine tkB 25 rfl (by kernel_rfl) (fun _ _ _ h => h) gnone (TTany _) (p_pickt rfl rfl) rfl ?_
      refine dnB (by kernel_rfl) ?_
      refine nthen ?_
      refine cc rfl ?_ ?_
      ·
       intro h64
       have hc : Cand l m u k x y := ⟨hix, hky, hx1, hy1, heq, by have h := h64; rw [tf0, tf0] at h; simp at h; omega⟩
       have hnp : NextP l m u k x y := ⟨hc, hny⟩
       have hlen := hch.len
       refine cs ?_
       refine cr ?_
       refine ls (op (p_move rfl) rfl) ?_
       refine ls (op (p_move rfl) rfl) ?_
       refine ls (op (p_move rfl) rfl) ?_
       refine ls (op (p_bld sb111 rfl (Fill.t (by repeat' constructor) rfl rfl (by repeat' constructor) (Fill.t (by repeat' constructor) rfl rfl (by repeat' constructor) Fill.d))) rfl) ?_
       refine ls (o_bsl [(x, y)] Tryz.underlying108 Tryz.sizeOf111 Tryz.zeroValue111 rfl (Enum.t Enum.d) (RV.t () rfl (by repeat' (first | constructor | apply Sub.suf)) RV.d) rfl (by decide) (by decide) rfl) ?_
       refine le ?_; intro b69
       refine lmono (fun a w h => Go.Sx.freeze (i := 0) rfl h) ?_
       refine ls (o_app (is := [0]) Tryz.underlying108 inf111 rfl (by decide) (by decide) rfl rfl (by simp only [List.length_cons, List.length_nil]; have := lcs_lenl l m; omega) (fun h => by cases h) rfl (by repeat' (first | constructor | apply Sub.suf)) rfl) ?_
       refine le ?_; rintro ⟨A70, c70⟩
       refine ls (op (p_asg rfl) rfl) ?_
       refine ln ?_
       refine nthen ?_
       refine cs ?_
       refine cr ?_
       refine ls (op (p_move rfl) rfl) ?_
       refine ls (op (p_add rfl rfl (by omega)) rfl) ?_
       refine ls (op (p_move rfl) rfl) ?_
       refine ls (op (p_add rfl rfl (by omega)) rfl) ?_
       refine ls (op (p_asg rfl) rfl) ?_
       refine ls (op (p_asg rfl) rfl) ?_
       refine ln ?_
       refine nthen ?_
       refine cexit ?_
       refine xblock' rfl ?_
       refine xthen ?_
       refine xthen ?_
       refine xblock' rfl ?_
       refine xblock' rfl ?_
       refine xthen ?_
       refine xthen ?_
       refine xblock' rfl ?_
       refine xblock ?_
       refine nnext ⟨(o ++ [(x, y)], (x + 1, y + 1), (A70, c70)), hch.snoc hpos hnp⟩ (by have := next_cmn hc; dsimp only; omega) (wk0 (by repeat (first | exact subσ.nil _ | refine subσ.cons rfl ?_)) (by repeat' (first | constructor | apply Sub.suf)))
      ·
       intro h64
       have hc : ¬ Cand l m u k x y := fun c => by have h := h64; rw [tf0, tf0, c.n] at h; simp at h
       refine cskip ?_
       refine nblock ?_
       refine nthen ?_
       refine cr ?_
       refine ls (op (p_move rfl) rfl) ?_
       refine ls (op (p_add rfl rfl (by omega)) rfl) ?_
       refine ls (op (p_asg rfl) rfl) ?_
       refine ln ?_
       refine nnext ⟨y + 1, by omega, hy1, noneB_y hny hc⟩ (by dsimp only; omega) (wk0 (by repeat (first | exact subσ.nil _ | refine subσ.cons rfl ?_)) (by repeat' (first | constructor | apply Sub.suf)))
     ·
      refine elC (A := A) (l := l) (by repeat' constructor) x (List.getElem?_eq_getElem (l := l) hx1) ?_; rintro zba zoa zya hAa
      refine elC (A := B) (l := m) (by repeat' constructor) y (List.getElem?_eq_getElem (l := m) hy1) ?_; rintro zbb zob zyb hAb
      refine cdB [] [(3, zba, zoa + x * Rp.size ByteArray, _), (7, zbb, zob + y * Rp.size ByteArray, _)] TryzX.mixed (by kernel_rfl) (by kernel_rfl) (TOk.t (isInS (by repeat' constructor) (k := 0) rfl (z := 1) (by repeat (first | exact Cut.d | apply Cut.t | apply Cut.s))) (TOk.t (isInS (by repeat' constructor) (k := 0) rfl (z := 1) (by repeat (first | exact Cut.d | apply Cut.t | apply Cut.s))) TOk.d)) ?_
      refine tkB 0 rfl (by kernel_rfl) (fun _ _ _ h => h) gnone (TTany _) (p_move rfl) rfl ?_
      refine tkB 1 rfl (by kernel_rfl) (fun _ _ _ h => h) gnone (TTany _) (p_move rfl) rfl ?_
      refine tkB 2 rfl (by kernel_rfl) (fun _ _ _ h => h) gnone (TTany _) (p_ia x hAa hx1 rfl Tryz.underlying37 Tryz.sizeOf9 rfl rfl) rfl ?_
      refine tkB 3 rfl (by kernel_rfl) (fun _ _ _ h => h) gnone (TTat (List.Mem.head _)) (p_ld Tryz.isAgg9 rfl) rfl ?_
      refine tkB 4 rfl (by kernel_rfl) (fun _ _ _ h => h) gnone (TTany _) (p_move rfl) rfl ?_
      refine tkB 5 rfl (by kernel_rfl) (fun _ _ _ h => h) gnone (TTany _) (p_move rfl) rfl ?_
      refine tkB 6 rfl (by kernel_rfl) (fun _ _ _ h => h) gnone (TTany _) (p_ia y hAb hy1 rfl Tryz.underlying37 Tryz.sizeOf9 rfl rfl) rfl ?_
      refine tkB 7 rfl (by kernel_rfl) (fun _ _ _ h => h) gnone (TTat (List.Mem.tail _ (List.Mem.head _))) (p_ld Tryz.isAgg9 rfl) rfl ?_
      refine tkB 8 rfl (by kernel_rfl) (fun _ _ _ h => h) gnone (TTany _) (p_seq rfl rfl) rfl ?_
      refine fixB (congrArg Value.bool (decide_eq_false heq)) ?_
      refine tkB 9 rfl (by kernel_rfl) (fun _ _ _ h => h) gnone (TTany _) (p_move rfl) rfl ?_
      refine tksB 10 rfl (by kernel_rfl) (fun _ _ _ h => h) rfl rfl rfl rfl rfl ?_
      refine tksB 11 rfl (by kernel_rfl) (fun _ _ _ h => h) rfl rfl rfl rfl rfl ?_
      refine tksB 12 rfl (by kernel_rfl) (fun _ _ _ h => h) rfl rfl rfl rfl rfl ?_
      refine tksB 13 rfl (by kernel_rfl) (fun _ _ _ h => h) rfl rfl rfl rfl rfl ?_
      refine tksB 14 rfl (by kernel_rfl) (fun _ _ _ h => h) rfl rfl rfl rfl rfl ?_
      refine tksB 15 rfl (by kernel_rfl) (fun _ _ _ h => h) rfl rfl rfl rfl rfl ?_
      refine tksB 16 rfl (by kernel_rfl) (fun _ _ _ h => h) rfl rfl rfl rfl rfl ?_
      refine tksB 17 rfl (by kernel_rfl) (fun _ _ _ h => h) rfl rfl rfl rfl rfl ?_
      refine tksB 18 rfl (by kernel_rfl) (fun _ _ _ h => h) rfl rfl rfl rfl rfl ?_
      refine tksB 19 rfl (by kernel_rfl) (fun _ _ _ h => h) rfl rfl rfl rfl rfl ?_
      refine tksB 20 rfl (by kernel_rfl) (fun _ _ _ h => h) rfl rfl rfl rfl rfl ?_
      refine tksB 21 rfl (by kernel_rfl) (fun _ _ _ h => h) rfl rfl rfl rfl rfl ?_
      refine tksB 22 rfl (by kernel_rfl) (fun _ _ _ h => h) rfl rfl rfl rfl rfl ?_
      refine tksB 23 rfl (by kernel_rfl) (fun _ _ _ h => h) rfl rfl rfl rfl rfl ?_
      refine tksB 24 rfl (by kernel_rfl) (fun _ _ _ h => h) rfl rfl rfl rfl rfl ?_
      refine tkB 25 rfl (by kernel_rfl) (fun _ _ _ h => h) gnone (TTany _) (p_pickf rfl rfl) rfl ?_
      refine dnB (by kernel_rfl) ?_
      refine nthen ?_
      refine cc rfl (fun h => by cases h) (fun h => ?_)
      refine cskip ?_
      refine nblock ?_
      refine nthen ?_
      refine cr ?_
      refine ls (op (p_move rfl) rfl) ?_
      refine ls (op (p_add rfl rfl (by omega)) rfl) ?_
      refine ls (op (p_asg rfl) rfl) ?_
      refine ln ?_
      refine nnext ⟨y + 1, by omega, hy1, noneB_y hny (fun c => heq c.eq)⟩ (by dsimp only; omega) (wk0 (by repeat (first | exact subσ.nil _ | refine subσ.cons rfl ?_)) (by repeat' (first | constructor | apply Sub.suf)))
    ·
     intro h36
     try simp only [decide_eq_true_eq, decide_eq_false_iff_not, Bool.not_eq_true', Bool.not_eq_false', Int.not_lt, Int.not_le, ge_iff_le, Bool.not_true, Bool.not_false] at h36
     refine cexit ?_
     refine xthen ?_
     refine xthen ?_
     refine xblock ?_
     refine nblock ?_
     refine nthen ?_
     refine cr ?_
     refine ls (op (p_move rfl) rfl) ?_
     refine ls (op (p_add rfl rfl (by omega)) rfl) ?_
     refine ls (op (p_asg rfl) rfl) ?_
     refine ln ?_
     refine nnext ⟨x + 1, by omega, hx1, noneB_x hny (by omega)⟩ (by dsimp only; omega) (wk0 (by repeat (first | exact subσ.nil _ | refine subσ.cons rfl ?_)) (by repeat' (first | constructor | apply Sub.suf)))
   ·
    intro h29
    try simp only [decide_eq_true_eq, decide_eq_false_iff_not, Bool.not_eq_true', Bool.not_eq_false', Int.not_lt, Int.not_le, ge_iff_le, Bool.not_true, Bool.not_false] at h29
    refine cexit ?_
    refine xthen ?_
    refine xthen ?_
    refine xblock ?_
    refine nblock ?_
    exact absurd hpos (noneB_end hnx (by omega))
  ·
   intro h24
   have hzero : cmn l m u k = 0 := by have h := h24; rw [tf0] at h; simp at h; omega
   refine cexit ?_
   refine xthen ?_
   refine xthen ?_
   refine xblock ?_
   refine nthen ?_
   refine cs ?_
   refine cr ?_
   refine ls (op (p_move rfl) rfl) ?_
   refine ls (op (p_asg rfl) rfl) ?_
   refine ln ?_
   refine nthen ?_
   refine cret ?_
   refine xret (fun _ _ h => h) ?_
   refine rret (is := [0]) ⟨(o, (A6, c6)), (fun h => by rw [h13] at h; cases h), fun _ => ⟨u, k, hch, hzero⟩⟩ (Or.inl rfl) (Res.t rfl Res.d) (rfl) rfl (by repeat' (first | constructor | apply Sub.suf))

set_option maxRecDepth 100000 in
theorem c_dHunk (nm : ByteArray) (l m : List ByteArray) (A B : Option Addr) (c c' : Nat) (hl : l.length ≤ 1000000) (hm : m.length ≤ 1000000) (hc : l.length ≤ c) (hc' : m.length ≤ c') (p q : Nat × Nat) (h1 : p.1 ≤ q.1) (h2 : p.2 ≤ q.2) (h3 : q.1 ≤ l.length) (h4 : q.2 ≤ m.length) : Con Tryz.prog 69 [.string nm, .slice A l.length c, .slice B m.length c', .agg #[.int .i64 ((p.1 : Nat) : Int), .int .i64 ((p.2 : Nat) : Int)], .agg #[.int .i64 ((q.1 : Nat) : Int), .int .i64 ((q.2 : Nat) : Int)]] [] [slA A l, slA B m] (Rp.Lay Prim) (fun y => .tuple #[sv (hunkP nm l m p q) y, .bool (decide (p.1 < q.1 ∨ p.2 < q.2))]) (fun _ => []) (fun y => Rp.asn (hunkP nm l m p q) y) := by
 refine con Tryz.func69 rfl Tryz.ntmps69 rfl ?_
 intro M0 F0 w0
 refine cs ?_
 refine cr ?_
 refine ls (o_box rfl rfl rfl) ?_
 refine le ?_; intro b8
 refine ls (o_box rfl rfl rfl) ?_
 refine le ?_; intro b9
 refine ls (o_alloc Tryz.zeroValue39 rfl rfl) ?_
 refine le ?_; intro b10
 refine ls (op (p_asg rfl) rfl) ?_
 refine ln ?_
 refine nthen ?_
 refine cs ?_
 refine cmono (fun a w h => subS (A := A) (l := l) (l' := (l.drop p.1).take (q.1 - p.1)) (c := c) p.1 q.1 (by repeat (first | exact In.z | apply In.s)) (by omega) (by omega) (by omega) rfl h) ?_
 refine cmono (fun a w h => subS (A := B) (l := m) (l' := (m.drop p.2).take (q.2 - p.2)) (c := c') p.2 q.2 (by repeat (first | exact In.z | apply In.s)) (by omega) (by omega) (by omega) rfl h) ?_
 refine cdB [9, 16, 18, 19] [(2, b8, 1, _), (5, b8, 0, _), (7, b9, 0, _), (12, b8, 1, _), (14, b9, 1, _)] TryzX.mixed (by kernel_rfl) (by kernel_rfl) (TOk.t (isBoxS (by repeat' constructor) (k := 1) (by repeat (first | exact Cut.d | apply Cut.t | apply Cut.s))) (TOk.t (isBoxS (by repeat' constructor) (k := 1) (by repeat (first | exact Cut.d | apply Cut.t | apply Cut.s))) (TOk.t (isBoxS (by repeat' constructor) (k := 1) (by repeat (first | exact Cut.d | apply Cut.t | apply Cut.s))) (TOk.t (isBoxS (by repeat' constructor) (k := 1) (by repeat (first | exact Cut.d | apply Cut.t | apply Cut.s))) (TOk.t (isBoxS (by repeat' constructor) (k := 1) (by repeat (first | exact Cut.d | apply Cut.t | apply Cut.s))) TOk.d))))) ?_
 refine tkB 0 rfl (by kernel_rfl) (fun _ _ _ h => h) gnone (TTany _) (p_move rfl) rfl ?_
 refine tkB 1 rfl (by kernel_rfl) (fun _ _ _ h => h) gnone (TTany _) (p_fa fa111_1 rfl) rfl ?_
 refine tkB 2 rfl (by kernel_rfl) (fun _ _ _ h => h) gnone (TTat (List.Mem.head _)) (p_ld Tryz.isAgg3 rfl) rfl ?_
 refine tkB 3 rfl (by kernel_rfl) (fun _ _ _ h => h) gnone (TTany _) (p_move rfl) rfl ?_
 refine tkB 4 rfl (by kernel_rfl) (fun _ _ _ h => h) gnone (TTany _) (p_fa fa111_0 rfl) rfl ?_
 refine tkB 5 rfl (by kernel_rfl) (fun _ _ _ h => h) gnone (TTat (List.Mem.tail _ (List.Mem.head _))) (p_ld Tryz.isAgg3 rfl) rfl ?_
 refine tkB 6 rfl (by kernel_rfl) (fun _ _ _ h => h) gnone (TTany _) (p_fa fa111_0 rfl) rfl ?_
 refine tkB 7 rfl (by kernel_rfl) (fun _ _ _ h => h) gnone (TTat (List.Mem.tail _ (List.Mem.tail _ (List.Mem.head _)))) (p_ld Tryz.isAgg3 rfl) rfl ?_
 refine tkB 8 rfl (by kernel_rfl) (fun _ _ _ h => h) gnone (TTany _) (p_sl p.1 q.1 (by omega) (by omega) rfl rfl Tryz.underlying37 Tryz.sizeOf9 rfl rfl rfl) rfl ?_
 refine fixB (slen (m' := ((l.drop p.1).take (q.1 - p.1)).length) (by rw [List.length_take, List.length_drop]; omega)) ?_
 refine tkB 10 rfl (by kernel_rfl) (fun _ _ _ h => h) gnone (TTany _) (p_move rfl) rfl ?_
 refine tkB 11 rfl (by kernel_rfl) (fun _ _ _ h => h) gnone (TTany _) (p_fa fa111_1 rfl) rfl ?_
 refine tkB 12 rfl (by kernel_rfl) (fun _ _ _ h => h) gnone (TTat (List.Mem.tail _ (List.Mem.tail _ (List.Mem.tail _ (List.Mem.head _))))) (p_ld Tryz.isAgg3 rfl) rfl ?_
 refine tkB 13 rfl (by kernel_rfl) (fun _ _ _ h => h) gnone (TTany _) (p_fa fa111_1 rfl) rfl ?_
 refine tkB 14 rfl (by kernel_rfl) (fun _ _ _ h => h) gnone (TTat (List.Mem.tail _ (List.Mem.tail _ (List.Mem.tail _ (List.Mem.tail _ (List.Mem.head _)))))) (p_ld Tryz.isAgg3 rfl) rfl ?_
 refine tkB 15 rfl (by kernel_rfl) (fun _ _ _ h => h) gnone (TTany _) (p_sl p.2 q.2 (by omega) (by omega) rfl rfl Tryz.underlying37 Tryz.sizeOf9 rfl rfl rfl) rfl ?_
 refine fixB (slen (m' := ((m.drop p.2).take (q.2 - p.2)).length) (by rw [List.length_take, List.length_drop]; omega)) ?_
 refine dallB (is := [9, 18]) (by kernel_rfl) rfl ?_
 intro i hi; simp only [List.mem_cons, List.mem_nil_iff, or_false] at hi; rcases hi with rfl | rfl
 ·
  refine doRB rfl (o_call (is := []) Tryz.call74 (c_sClone ((l.drop p.1).take (q.1 - p.1)) (if c = p.1 then A else A.map (·.add (p.1 * Rp.size ByteArray))) (c - p.1) (by rw [List.length_take, List.length_drop]; omega)) rfl rfl (by repeat' (first | constructor | apply Sub.suf)) rfl) (TOk.t (isBoxE fun _ => isBoxS (by repeat' constructor) (k := 1) (by repeat (first | exact Cut.d | apply Cut.t | apply Cut.s))) (TOk.xP 9 [8] (by kernel_rfl) (TOk.xP 9 [8] (by kernel_rfl) (TOk.t (isBoxE fun _ => isBoxS (by repeat' constructor) (k := 1) (by repeat (first | exact Cut.d | apply Cut.t | apply Cut.s))) (TOk.t (isBoxE fun _ => isBoxS (by repeat' constructor) (k := 1) (by repeat (first | exact Cut.d | apply Cut.t | apply Cut.s))) TOk.d))))) ?_
  refine eaB ?_; rintro ⟨A22, c22⟩
  refine dallB (is := [16, 18]) (by kernel_rfl) rfl ?_
  intro i hi; simp only [List.mem_cons, List.mem_nil_iff, or_false] at hi; rcases hi with rfl | rfl
  ·
   refine doRB rfl (o_call (is := []) Tryz.call74 (c_sClone ((m.drop p.2).take (q.2 - p.2)) (if c' = p.2 then B else B.map (·.add (p.2 * Rp.size ByteArray))) (c' - p.2) (by rw [List.length_take, List.length_drop]; omega)) rfl rfl (by repeat' (first | constructor | apply Sub.suf)) rfl) (TOk.t (isBoxE fun _ => isBoxS (by repeat' constructor) (k := 1) (by repeat (first | exact Cut.d | apply Cut.t | apply Cut.s))) (TOk.xP 9 [8] (by kernel_rfl) (TOk.xP 9 [8] (by kernel_rfl) (TOk.xP 16 [15] (by kernel_rfl) (TOk.xP 16 [15] (by kernel_rfl) TOk.d))))) ?_
   refine eaB ?_; rintro ⟨A29, c29⟩
   refine tkB 17 rfl (by kernel_rfl) (fun _ _ _ h => h) gnone (TTany _) (p_bld sb39 rfl (Fill.t (by repeat' constructor) rfl rfl (by repeat' constructor) (Fill.t (by repeat' constructor) rfl rfl (by repeat' constructor) (Fill.t (by repeat' constructor) rfl rfl (by repeat' constructor) (Fill.t (by repeat' constructor) rfl rfl (by repeat' constructor) (Fill.t (by repeat' constructor) rfl rfl (by repeat' constructor) Fill.d)))))) rfl ?_
   refine dfB 18 (by kernel_rfl) ?_
   refine doRB rfl (o_alloc Tryz.zeroValue39 rfl rfl) (TOk.t (isBoxE fun _ => isBoxS (by repeat' constructor) (k := 1) (by repeat (first | exact Cut.d | apply Cut.t | apply Cut.s))) (TOk.xP 9 [8] (by kernel_rfl) (TOk.xP 9 [8] (by kernel_rfl) (TOk.xP 16 [15] (by kernel_rfl) (TOk.xP 16 [15] (by kernel_rfl) TOk.d))))) ?_
   refine eaB ?_; intro b12
   refine dfB 19 (by kernel_rfl) ?_
   refine doRB rfl (o_st rfl Tryz.sizeOf39 rfl rfl rfl rfl rfl (by repeat' constructor) (by repeat' constructor) (by repeat' constructor)) (TOk.xP 19 [] (by kernel_rfl) (TOk.xP 9 [8] (by kernel_rfl) (TOk.xP 9 [8] (by kernel_rfl) (TOk.xP 16 [15] (by kernel_rfl) (TOk.xP 16 [15] (by kernel_rfl) TOk.d))))) ?_
   refine dnB (by kernel_rfl) ?_
   refine nthen ?_
   refine cs ?_
   refine cdB [9] [(0, b12, 0, _), (2, b12, 4, _), (5, b12, 5, _)] TryzX.mixed (by kernel_rfl) (by kernel_rfl) (TOk.t (isBoxS (by repeat' constructor) (k := 6) (by repeat (first | exact Cut.d | apply Cut.t | apply Cut.s))) (TOk.t (isBoxS (by repeat' constructor) (k := 1) (by repeat (first | exact Cut.d | apply Cut.t | apply Cut.s))) (TOk.t (isBoxS (by repeat' constructor) (k := 1) (by repeat (first | exact Cut.d | apply Cut.t | apply Cut.s))) TOk.d))) ?_
   refine tkB 0 rfl (by kernel_rfl) (fun _ _ _ h => h) gnone (TTat (List.Mem.head _)) (p_lda Tryz.isAgg39 Tryz.sizeOf39 rfl rfl) rfl ?_
   refine tkB 1 rfl (by kernel_rfl) (fun _ _ _ h => h) gnone (TTany _) (p_fa fa39_4 rfl) rfl ?_
   refine tkB 2 rfl (by kernel_rfl) (fun _ _ _ h => h) gnone (TTat (List.Mem.tail _ (List.Mem.head _))) (p_ld Tryz.isAgg37 rfl) rfl ?_
   refine tkB 3 rfl (by kernel_rfl) (fun _ _ _ h => h) gnone (TTany _) (p_lenl rfl Tryz.underlying37) rfl ?_
   refine tkB 4 rfl (by kernel_rfl) (fun _ _ _ h => h) gnone (TTany _) (p_fa fa39_5 rfl) rfl ?_
   refine tkB 5 rfl (by kernel_rfl) (fun _ _ _ h => h) gnone (TTat (List.Mem.tail _ (List.Mem.tail _ (List.Mem.head _)))) (p_ld Tryz.isAgg37 rfl) rfl ?_
   refine tkB 6 rfl (by kernel_rfl) (fun _ _ _ h => h) gnone (TTany _) (p_lenl rfl Tryz.underlying37) rfl ?_
   refine tkB 7 rfl (by kernel_rfl) (fun _ _ _ h => h) gnone (TTany _) (p_add rfl rfl (by rw [List.length_take, List.length_take, List.length_drop, List.length_drop]; omega)) rfl ?_
   refine tkB 8 rfl (by kernel_rfl) (fun _ _ _ h => h) gnone (TTany _) (p_icmp rfl rfl rfl) rfl ?_
   refine dfB 9 (by kernel_rfl) ?_
   refine doRB rfl (o_st rfl Tryz.sizeOf39 rfl rfl rfl rfl rfl (by repeat' constructor) (by repeat' constructor) (by repeat' constructor)) (TOk.xP 9 [] (by kernel_rfl) (TOk.t (isBoxS (by repeat' constructor) (k := 1) (by repeat (first | exact Cut.d | apply Cut.t | apply Cut.s))) (TOk.t (isBoxS (by repeat' constructor) (k := 1) (by repeat (first | exact Cut.d | apply Cut.t | apply Cut.s))) TOk.d))) ?_
   refine tkB 10 rfl (by kernel_rfl) (fun _ _ _ h => h) gnone (TTany _) (p_asg rfl) rfl ?_
   refine dnB (by kernel_rfl) ?_
   refine nthen ?_
   refine cret ?_
   refine xret (fun _ _ h => h) ?_
   refine rret (is := []) ((A22, c22), (A29, c29)) (Or.inl rfl) (Res.c rfl Tryz.isAgg39 Tryz.sizeOf39 (by repeat' constructor) (by rfl) (Res.t rfl Res.d)) ?_ rfl (by repeat' (first | constructor | apply Sub.suf))
   simp only [packV]; rw [hunk_some h1 h2 h3 h4]; rfl
  ·
   refine doRB rfl (o_alloc Tryz.zeroValue39 rfl rfl) (TOk.t (isBoxE fun _ => isBoxS (by repeat' constructor) (k := 1) (by repeat (first | exact Cut.d | apply Cut.t | apply Cut.s))) (TOk.xP 9 [8] (by kernel_rfl) (TOk.xP 9 [8] (by kernel_rfl) (TOk.t (isBoxE fun _ => isBoxS (by repeat' constructor) (k := 1) (by repeat (first | exact Cut.d | apply Cut.t | apply Cut.s))) (TOk.t (isBoxE fun _ => isBoxS (by repeat' constructor) (k := 1) (by repeat (first | exact Cut.d | apply Cut.t | apply Cut.s))) TOk.d))))) ?_
   refine eaB ?_; intro b12
   refine dfB 16 (by kernel_rfl) ?_
   refine doRB rfl (o_call (is := []) Tryz.call74 (c_sClone ((m.drop p.2).take (q.2 - p.2)) (if c' = p.2 then B else B.map (·.add (p.2 * Rp.size ByteArray))) (c' - p.2) (by rw [List.length_take, List.length_drop]; omega)) rfl rfl (by repeat' (first | constructor | apply Sub.suf)) rfl) (TOk.t (isBoxE fun _ => isBoxS (by repeat' constructor) (k := 1) (by repeat (first | exact Cut.d | apply Cut.t | apply Cut.s))) (TOk.xP 9 [8] (by kernel_rfl) (TOk.xP 9 [8] (by kernel_rfl) (TOk.xP 16 [15] (by kernel_rfl) (TOk.xP 16 [15] (by kernel_rfl) TOk.d))))) ?_
   refine eaB ?_; rintro ⟨A29, c29⟩
   refine tkB 17 rfl (by kernel_rfl) (fun _ _ _ h => h) gnone (TTany _) (p_bld sb39 rfl (Fill.t (by repeat' constructor) rfl rfl (by repeat' constructor) (Fill.t (by repeat' constructor) rfl rfl (by repeat' constructor) (Fill.t (by repeat' constructor) rfl rfl (by repeat' constructor) (Fill.t (by repeat' constructor) rfl rfl (by repeat' constructor) (Fill.t (by repeat' constructor) rfl rfl (by repeat' constructor) Fill.d)))))) rfl ?_
   refine dfB 19 (by kernel_rfl) ?_
   refine doRB rfl (o_st rfl Tryz.sizeOf39 rfl rfl rfl rfl rfl (by repeat' constructor) (by repeat' constructor) (by repeat' constructor)) (TOk.xP 19 [] (by kernel_rfl) (TOk.xP 9 [8] (by kernel_rfl) (TOk.xP 9 [8] (by kernel_rfl) (TOk.xP 16 [15] (by kernel_rfl) (TOk.xP 16 [15] (by kernel_rfl) TOk.d))))) ?_
   refine dnB (by kernel_rfl) ?_
   refine nthen ?_
   refine cs ?_
   refine cdB [9] [(0, b12, 0, _), (2, b12, 4, _), (5, b12, 5, _)] TryzX.mixed (by kernel_rfl) (by kernel_rfl) (TOk.t (isBoxS (by repeat' constructor) (k := 6) (by repeat (first | exact Cut.d | apply Cut.t | apply Cut.s))) (TOk.t (isBoxS (by repeat' constructor) (k := 1) (by repeat (first | exact Cut.d | apply Cut.t | apply Cut.s))) (TOk.t (isBoxS (by repeat' constructor) (k := 1) (by repeat (first | exact Cut.d | apply Cut.t | apply Cut.s))) TOk.d))) ?_
   refine tkB 0 rfl (by kernel_rfl) (fun _ _ _ h => h) gnone (TTat (List.Mem.head _)) (p_lda Tryz.isAgg39 Tryz.sizeOf39 rfl rfl) rfl ?_
   refine tkB 1 rfl (by kernel_rfl) (fun _ _ _ h => h) gnone (TTany _) (p_fa fa39_4 rfl) rfl ?_
   refine tkB 2 rfl (by kernel_rfl) (fun _ _ _ h => h) gnone (TTat (List.Mem.tail _ (List.Mem.head _))) (p_ld Tryz.isAgg37 rfl) rfl ?_
   refine tkB 3 rfl (by kernel_rfl) (fun _ _ _ h => h) gnone (TTany _) (p_lenl rfl Tryz.underlying37) rfl ?_
   refine tkB 4 rfl (by kernel_rfl) (fun _ _ _ h => h) gnone (TTany _) (p_fa fa39_5 rfl) rfl ?_
   refine tkB 5 rfl (by kernel_rfl) (fun _ _ _ h => h) gnone (TTat (List.Mem.tail _ (List.Mem.tail _ (List.Mem.head _)))) (p_ld Tryz.isAgg37 rfl) rfl ?_
   refine tkB 6 rfl (by kernel_rfl) (fun _ _ _ h => h) gnone (TTany _) (p_lenl rfl Tryz.underlying37) rfl ?_
   refine tkB 7 rfl (by kernel_rfl) (fun _ _ _ h => h) gnone (TTany _) (p_add rfl rfl (by rw [List.length_take, List.length_take, List.length_drop, List.length_drop]; omega)) rfl ?_
   refine tkB 8 rfl (by kernel_rfl) (fun _ _ _ h => h) gnone (TTany _) (p_icmp rfl rfl rfl) rfl ?_
   refine dfB 9 (by kernel_rfl) ?_
   refine doRB rfl (o_st rfl Tryz.sizeOf39 rfl rfl rfl rfl rfl (by repeat' constructor) (by repeat' constructor) (by repeat' constructor)) (TOk.xP 9 [] (by kernel_rfl) (TOk.t (isBoxS (by repeat' constructor) (k := 1) (by repeat (first | exact Cut.d | apply Cut.t | apply Cut.s))) (TOk.t (isBoxS (by repeat' constructor) (k := 1) (by repeat (first | exact Cut.d | apply Cut.t | apply Cut.s))) TOk.d))) ?_
   refine tkB 10 rfl (by kernel_rfl) (fun _ _ _ h => h) gnone (TTany _) (p_asg rfl) rfl ?_
   refine dnB (by kernel_rfl) ?_
   refine nthen ?_
   refine cret ?_
   refine xret (fun _ _ h => h) ?_
   refine rret (is := []) ((A22, c22), (A29, c29)) (Or.inl rfl) (Res.c rfl Tryz.isAgg39 Tryz.sizeOf39 (by repeat' constructor) (by rfl) (Res.t rfl Res.d)) ?_ rfl (by repeat' (first | constructor | apply Sub.suf))
   simp only [packV]; rw [hunk_some h1 h2 h3 h4]; rfl
 ·
  refine doRB rfl (o_alloc Tryz.zeroValue39 rfl rfl) (TOk.t (isBoxE fun _ => isBoxS (by repeat' constructor) (k := 1) (by repeat (first | exact Cut.d | apply Cut.t | apply Cut.s))) (TOk.t (isBoxE fun _ => isBoxS (by repeat' constructor) (k := 1) (by repeat (first | exact Cut.d | apply Cut.t | apply Cut.s))) (TOk.t (isBoxE fun _ => isBoxS (by repeat' constructor) (k := 1) (by repeat (first | exact Cut.d | apply Cut.t | apply Cut.s))) (TOk.t (isBoxE fun _ => isBoxS (by repeat' constructor) (k := 1) (by repeat (first | exact Cut.d | apply Cut.t | apply Cut.s))) (TOk.t (isBoxE fun _ => isBoxS (by repeat' constructor) (k := 1) (by repeat (first | exact Cut.d | apply Cut.t | apply Cut.s))) TOk.d))))) ?_
  refine eaB ?_; intro b12
  refine dfB 9 (by kernel_rfl) ?_
  refine doRB rfl (o_call (is := []) Tryz.call74 (c_sClone ((l.drop p.1).take (q.1 - p.1)) (if c = p.1 then A else A.map (·.add (p.1 * Rp.size ByteArray))) (c - p.1) (by rw [List.length_take, List.length_drop]; omega)) rfl rfl (by repeat' (first | constructor | apply Sub.suf)) rfl) (TOk.t (isBoxE fun _ => isBoxS (by repeat' constructor) (k := 1) (by repeat (first | exact Cut.d | apply Cut.t | apply Cut.s))) (TOk.xP 9 [8] (by kernel_rfl) (TOk.xP 9 [8] (by kernel_rfl) (TOk.t (isBoxE fun _ => isBoxS (by repeat' constructor) (k := 1) (by repeat (first | exact Cut.d | apply Cut.t | apply Cut.s))) (TOk.t (isBoxE fun _ => isBoxS (by repeat' constructor) (k := 1) (by repeat (first | exact Cut.d | apply Cut.t | apply Cut.s))) TOk.d))))) ?_
  refine eaB ?_; rintro ⟨A22, c22⟩
  refine dfB 16 (by kernel_rfl) ?_
  refine doRB rfl (o_call (is := []) Tryz.call74 (c_sClone ((m.drop p.2).take (q.2 - p.2)) (if c' = p.2 then B else B.map (·.add (p.2 * Rp.size ByteArray))) (c' - p.2) (by rw [List.length_take, List.length_drop]; omega)) rfl rfl (by repeat' (first | constructor | apply Sub.suf)) rfl) (TOk.t (isBoxE fun _ => isBoxS (by repeat' constructor) (k := 1) (by repeat (first | exact Cut.d | apply Cut.t | apply Cut.s))) (TOk.xP 9 [8] (by kernel_rfl) (TOk.xP 9 [8] (by kernel_rfl) (TOk.xP 16 [15] (by kernel_rfl) (TOk.xP 16 [15] (by kernel_rfl) TOk.d))))) ?_
  refine eaB ?_; rintro ⟨A29, c29⟩
  refine tkB 17 rfl (by kernel_rfl) (fun _ _ _ h => h) gnone (TTany _) (p_bld sb39 rfl (Fill.t (by repeat' constructor) rfl rfl (by repeat' constructor) (Fill.t (by repeat' constructor) rfl rfl (by repeat' constructor) (Fill.t (by repeat' constructor) rfl rfl (by repeat' constructor) (Fill.t (by repeat' constructor) rfl rfl (by repeat' constructor) (Fill.t (by repeat' constructor) rfl rfl (by repeat' constructor) Fill.d)))))) rfl ?_
  refine dfB 19 (by kernel_rfl) ?_
  refine doRB rfl (o_st rfl Tryz.sizeOf39 rfl rfl rfl rfl rfl (by repeat' constructor) (by repeat' constructor) (by repeat' constructor)) (TOk.xP 19 [] (by kernel_rfl) (TOk.xP 9 [8] (by kernel_rfl) (TOk.xP 9 [8] (by kernel_rfl) (TOk.xP 16 [15] (by kernel_rfl) (TOk.xP 16 [15] (by kernel_rfl) TOk.d))))) ?_
  refine dnB (by kernel_rfl) ?_
  refine nthen ?_
  refine cs ?_
  refine cdB [9] [(0, b12, 0, _), (2, b12, 4, _), (5, b12, 5, _)] TryzX.mixed (by kernel_rfl) (by kernel_rfl) (TOk.t (isBoxS (by repeat' constructor) (k := 6) (by repeat (first | exact Cut.d | apply Cut.t | apply Cut.s))) (TOk.t (isBoxS (by repeat' constructor) (k := 1) (by repeat (first | exact Cut.d | apply Cut.t | apply Cut.s))) (TOk.t (isBoxS (by repeat' constructor) (k := 1) (by repeat (first | exact Cut.d | apply Cut.t | apply Cut.s))) TOk.d))) ?_
  refine tkB 0 rfl (by kernel_rfl) (fun _ _ _ h => h) gnone (TTat (List.Mem.head _)) (p_lda Tryz.isAgg39 Tryz.sizeOf39 rfl rfl) rfl ?_
  refine tkB 1 rfl (by kernel_rfl) (fun _ _ _ h => h) gnone (TTany _) (p_fa fa39_4 rfl) rfl ?_
  refine tkB 2 rfl (by kernel_rfl) (fun _ _ _ h => h) gnone (TTat (List.Mem.tail _ (List.Mem.head _))) (p_ld Tryz.isAgg37 rfl) rfl ?_
  refine tkB 3 rfl (by kernel_rfl) (fun _ _ _ h => h) gnone (TTany _) (p_lenl rfl Tryz.underlying37) rfl ?_
  refine tkB 4 rfl (by kernel_rfl) (fun _ _ _ h => h) gnone (TTany _) (p_fa fa39_5 rfl) rfl ?_
  refine tkB 5 rfl (by kernel_rfl) (fun _ _ _ h => h) gnone (TTat (List.Mem.tail _ (List.Mem.tail _ (List.Mem.head _)))) (p_ld Tryz.isAgg37 rfl) rfl ?_
  refine tkB 6 rfl (by kernel_rfl) (fun _ _ _ h => h) gnone (TTany _) (p_lenl rfl Tryz.underlying37) rfl ?_
  refine tkB 7 rfl (by kernel_rfl) (fun _ _ _ h => h) gnone (TTany _) (p_add rfl rfl (by rw [List.length_take, List.length_take, List.length_drop, List.length_drop]; omega)) rfl ?_
  refine tkB 8 rfl (by kernel_rfl) (fun _ _ _ h => h) gnone (TTany _) (p_icmp rfl rfl rfl) rfl ?_
  refine dfB 9 (by kernel_rfl) ?_
  refine doRB rfl (o_st rfl Tryz.sizeOf39 rfl rfl rfl rfl rfl (by repeat' constructor) (by repeat' constructor) (by repeat' constructor)) (TOk.xP 9 [] (by kernel_rfl) (TOk.t (isBoxS (by repeat' constructor) (k := 1) (by repeat (first | exact Cut.d | apply Cut.t | apply Cut.s))) (TOk.t (isBoxS (by repeat' constructor) (k := 1) (by repeat (first | exact Cut.d | apply Cut.t | apply Cut.s))) TOk.d))) ?_
  refine tkB 10 rfl (by kernel_rfl) (fun _ _ _ h => h) gnone (TTany _) (p_asg rfl) rfl ?_
  refine dnB (by kernel_rfl) ?_
  refine nthen ?_
  refine cret ?_
  refine xret (fun _ _ h => h) ?_
  refine rret (is := []) ((A22, c22), (A29, c29)) (Or.inl rfl) (Res.c rfl Tryz.isAgg39 Tryz.sizeOf39 (by repeat' constructor) (by rfl) (Res.t rfl Res.d)) ?_ rfl (by repeat' (first | constructor | apply Sub.suf))
  simp only [packV]; rw [hunk_some h1 h2 h3 h4]; rfl

end Go.Proofs.YtdbiillompeclaaGreatDoor.X

end
