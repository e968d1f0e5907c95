/- OWN WORK: a part of the proof of a law of the seat YtdbiillompeclaaGreatDoor: contracts. -/
import Derived.Test.YtdbiillompeclaaGreatDoorXGA
import Derived.Laws.StructEq
import Derived.Scope
import Derived.Deep.LoopGhost
import Derived.Test.YtdbiillompeclaaGreatDoorXGC
import Derived.Test.YtdbiillompeclaaGreatDoorXGB
import Derived.Lib.SlicesCompact
import Derived.Test.YtdbiillompeclaaGreatDoorProg
import Derived.Deep.Draws
import Derived.Lib.LaidTab
import Derived.Lib.ItoaNum
section
set_option linter.unusedVariables false
set_option linter.unusedSimpArgs false
namespace Go.Sx
open Go Go.RowKit
/-! A scope, out of which nobody jumps. -/
theorem stepR_scope {P : Program} {b : Frame} {a : Act} {k : List Item} {cs : List Frame} {w : World} {c : Code} : step P (lone (b.atR a (.code (.scope c) :: k)) cs w) = .next (lone (b.atR a (.code c :: .inScope c :: k)) cs w) :=
  step_lone_go (by simp [stepG, stepG.exec, Frame.atR])
theorem stepR_inScope {P : Program} {b : Frame} {a : Act} {k : List Item} {cs : List Frame} {w : World} {c : Code} : step P (lone (b.atR a (.inScope c :: k)) cs w) = .next (lone (b.atR a k) cs w) :=
  step_lone_go (by simp [stepG, stepG.exec, Frame.atR])
theorem wpIn_scope {F : Fence} {n : Nat} {P : Program} {Q : Exit → Act → World → Prop} {a : Act} {w : World} {c : Code} (h : c.wpIn F n P (Exit.noGoto Q) a w) : (Code.scope c).wpIn F n P Q a w := by
  intro b k cs hro hb hr
  have h0 : (lone (b.atR a (.code (.scope c) :: k)) cs w).fenced P F := fenced_calm hb hr rfl
  obtain ⟨e, a₁, w₁, hq, harr⟩ := h b (.inScope c :: k) cs hro hb hr
  cases e with
  | normal => exact ⟨.normal, a₁, w₁, hq, .head h0 stepR_scope (StepsIn.trans harr (.one (fenced_calm hb hr rfl) stepR_inScope))⟩
  | exit id => exact ⟨.exit id, a₁, w₁, hq, .of_steps (.one h0 stepR_scope) ⟨fun k' hk => harr.1 k' (by simpa [exitTo] using hk), fun hr' hk => harr.2 hr' (by simpa [exitTo] using hk)⟩⟩
  | goto l => exact hq.elim
  | ret => exact ⟨_, a₁, w₁, hq, .of_steps (.one h0 stepR_scope) harr⟩
  | panic ch => exact ⟨_, a₁, w₁, hq, .of_steps (.one h0 stepR_scope) harr⟩
  | outgrown => exact ⟨_, a₁, w₁, hq, .of_steps (.one h0 stepR_scope) harr⟩
theorem cscope {ro : Option Nat} {P : Program} {Q : Exit → Act → World → Prop} {S : Act → World → Prop} {c : Code} (k : TrC ro P (Exit.noGoto Q) S c) : TrC ro P Q S (.scope c) := fun a w h => wpIn_scope (k a w h)
theorem nscope {Q : Exit → Act → World → Prop} {S : Act → World → Prop} (k : TrN Q .normal S) : TrN (Exit.noGoto Q) .normal S := k
theorem xscope {Q : Exit → Act → World → Prop} {S : Act → World → Prop} {id : Nat} (k : TrN Q (.exit id) S) : TrN (Exit.noGoto Q) (.exit id) S := k
/-! A table: a row of one's own of slices whose arrays are one's own, too. -/
structure Hdr where
  A : Option Addr
  n : Nat
  c : Nat
instance instRpHdr : Rp Hdr where
  Lay := Unit
  size := 1
  enc h _ := [.slice h.A h.n h.c]
  len _ _ := rfl
  one _ _ v hv := by
    simp only [List.mem_cons, List.mem_nil_iff, or_false] at hv
    subst hv; rfl
  asn _ _ := []
theorem row_set {α : Type} [Rp α] {P : Program} {e : TypeId} {g c : Nat} {l : List α} {F M : Nat → Prop} {w : World} (h : (row e (some ⟨g, 0, none⟩) c l).p F M w) (hM : M g) {j : Nat} (hj : j < l.length) (z : α) (yz : Rp.Lay α) (ha : ∀ p ∈ Rp.asn z yz, p.p M w) :
    ∃ w' : World, (storeCells ⟨g, 0 + j * Rp.size α, none⟩ (Rp.enc z yz)).run P w = .ok () w' ∧ Upd (fun b => b = g) w w' ∧ (row e (some ⟨g, 0, none⟩) c (l.set j z)).p F M w' := by
  obtain ⟨xs, ho, hFb, hr⟩ := h
  have hxl := hr.length
  rcases ho.2 with ⟨h0, _⟩ | ⟨g', cap, cur, hv, hbase, hb, hle, hmax, hcs, hxs⟩
  · cases h0
  · cases hv
    have hjs : j * Rp.size α + Rp.size α ≤ l.length * Rp.size α := by
      have : (j + 1) * Rp.size α ≤ l.length * Rp.size α := Nat.mul_le_mul_right _ hj
      rw [Nat.add_mul, Nat.one_mul] at this
      exact this
    have hcap : l.length * Rp.size α ≤ c * Rp.size α := Nat.mul_le_mul_right _ hle
    have hlen := Rp.len z yz
    have hst := run_storeCells_at P g (0 + j * Rp.size α) e (Rp.enc z yz) 0 cur w hb (by rw [hlen]; omega) (fun v hv => Rp.one z yz v hv)
    simp only [Nat.zero_add, Nat.add_zero, hlen] at hst
    refine ⟨w.setRow g (cur.toList.take (j * Rp.size α) ++ Rp.enc z yz ++ cur.toList.drop (j * Rp.size α + Rp.size α)).toArray, ?_, ⟨rfl, rfl, rfl, by simp, fun b _ hn => setRow_other w g b _ (fun e' => hn e')⟩, ?_⟩
    · rw [Nat.zero_add]; exact hst
    · have hrow := hr.set j hj z yz ha
      refine ⟨_, ⟨?_, .inr ⟨g, c, (cur.toList.take (j * Rp.size α) ++ Rp.enc z yz ++ cur.toList.drop (j * Rp.size α + Rp.size α)).toArray, by rw [List.length_set], hbase, setRow_heap w g _ _ e _ hb, by rw [List.length_set]; exact hle, hmax, ?_, ?_⟩⟩, fun b => by rw [List.length_set]; exact hFb b, hrow.st (fun b hb' hn => setRow_other w g b _ (fun e' => hn (by rw [e']; exact hM))) (fun b _ hb' => hb') (by simp)⟩
      · exact hrow.length
      · simp [hlen]; omega
      · rw [List.length_set]
        have hcl : cur.toList.length = cur.size := by simp
        have h1 := take_put (l := cur.toList) (vs := Rp.enc z yz) (a := j * Rp.size α) (N := l.length * Rp.size α) (by rw [hlen]; exact hjs) (by rw [hcl, hcs]; exact hcap)
        rw [hlen, hxs] at h1
        exact h1
theorem row_at {α : Type} [Rp α] {e : TypeId} {g c : Nat} {l : List α} {F M : Nat → Prop} {w : World} (h : (row e (some ⟨g, 0, none⟩) c l).p F M w) {j : Nat} {x : α} (hj : l[j]? = some x) :
    ∃ y : Rp.Lay α, Is g (0 + j * Rp.size α) (Rp.enc x y) w ∧ ∀ p ∈ Rp.asn x y, p.p M w := by
  obtain ⟨xs, ho, _, hr⟩ := h
  obtain ⟨y, h1, h2⟩ := hr.at j x hj
  refine ⟨y, fun q v hq => ?_, h2⟩
  rcases ho.2 with ⟨h0, _⟩ | ⟨g', cap, cur, hv, _, hb, _, _, hsz, hxs⟩
  · cases h0
  · cases hv
    have h3 := h1 q v hq
    rw [← hxs] at h3
    have hlt := (List.getElem?_eq_some_iff.1 h3).1
    rw [List.length_take] at hlt
    rw [List.getElem?_take_of_lt (by omega)] at h3
    simp only [World.cell?, hb, Option.isSome_none, Bool.false_eq_true, if_false]
    rw [Nat.zero_add, ← Array.getElem?_toList]
    exact h3
theorem row_own {α : Type} [Rp α] {e : TypeId} {g c : Nat} {l : List α} {F M : Nat → Prop} {w : World} (h : (row e (some ⟨g, 0, none⟩) c l).p F M w) : (∀ b, F b ↔ b = g) ∧ g < w.heap.size := by
  obtain ⟨xs, ho, hF, hr⟩ := h
  refine ⟨fun b => by rw [hF b]; exact ⟨fun h => (Option.some.inj h).symm, fun h => by rw [h]; rfl⟩, ?_⟩
  rcases ho.2 with ⟨h0, _⟩ | ⟨g', cap, cur, hv, _, hb, _, _, hsz, hxs⟩
  · cases h0
  · cases hv; exact (Array.getElem?_eq_some_iff.1 hb).1
def tab {β : Type} [Rp β] (e1 e2 : TypeId) (g c : Nat) (hs : List Hdr) (m : Nat) (gs : List Nat) (ls : List (List β)) : Xsn where
  p F M w := (row (α := Hdr) e1 (some ⟨g, 0, none⟩) c hs).p (fun b => b = g) M w ∧ (g :: gs).Nodup ∧ gs.length = ls.length ∧
    (∀ (j b : Nat) (l : List β), gs[j]? = some b → ls[j]? = some l → (row (α := β) e2 (some ⟨b, 0, none⟩) m l).p (fun x => x = b) M w) ∧ ∀ x, F x ↔ x ∈ g :: gs
  st := by
    rintro F M M' w w' ⟨h1, h2, h3, h4, h5⟩ hb hm hs'
    refine ⟨(row _ _ _ _).st _ M M' w w' h1 (fun b hlt hF => hb b hlt (hF.imp (fun e => (h5 b).2 (by rw [e]; simp)) id)) hm hs', h2, h3, fun j b l hj hl => ?_, h5⟩
    exact (row _ _ _ _).st _ M M' w w' (h4 j b l hj hl) (fun x hlt hF => hb x hlt (hF.imp (fun e => (h5 x).2 (by rw [e]; exact List.mem_cons_of_mem _ (List.mem_of_getElem? hj))) id)) hm hs'

section
variable {ro : Option Nat} {P : Program} {M0 F0 : Nat → Prop} {w0 : World} {n : Nm} {σ : List (Nat × Value)} {Ξ : List Xsn} {Γ : List Asn} {d : Nat} {ty : TypeId} {pos : String} {af : Array Edge}
variable {ops : Array Oper} {Q : Exit → Act → World → Prop} {S S' : Act → World → Prop} {β : Type} [Rp β]

theorem p_mul {T : World → Prop} {x y : Operand} {t t' : TypeId} {k b : Int} (hx : ev σ x = some (.int .i64 k)) (hy : ev σ y = some (.int .i64 b)) (hb : -9223372036854775808 ≤ k * b ∧ k * b < 9223372036854775808) : Pu P n σ T ⟨some d, .binOp .mul t x y t', ty, pos, af, none⟩ (.int .i64 (k * b)) :=
  fun a hs w _ => by
    have := IntWalk.i64_in (k * b) (by omega)
    simp [execOp, hs.ev hx, hs.ev hy, eqGuard_mul, binOp_mul, Op.intArith, this]
theorem clabel {l : Nat} (k : TrN Q .normal S) : TrC ro P Q S (.label l) := fun a w h => wpIn_label (k a w h)
theorem o_pT {o : Op} {v : Value} {T : World → Prop} (h : Pu P n σ T ⟨some d, o, ty, pos, af, none⟩ v) (hT : ∀ a w, St M0 F0 w0 n σ Ξ Γ a w → T w) (hd : Nat.blt d n.n = true) : OpR P ⟨some d, o, ty, pos, af, none⟩ (St M0 F0 w0 n σ Ξ Γ) (St M0 F0 w0 n ((d, v) :: σ) Ξ Γ) :=
  OpR.of_run rfl fun a w hS => ⟨v, w, h a hS.1 w (hT a w hS), hS.1.put hd, hS.2⟩
theorem isRowI {e : TypeId} {g c i j : Nat} {l : List Int} {x : Int} (hi : At (row (α := Int) e (some ⟨g, 0, none⟩) c l) i Ξ) (hj : l[j]? = some x) : ∀ a w, St M0 F0 w0 n σ Ξ Γ a w → Is g (0 + j * Rp.size Int) [.int .i64 x] w := by
  rintro a w ⟨_, Fs, hh⟩
  obtain ⟨_, h1, _⟩ := rowAt hi hj hh
  exact h1
theorem rowEq {α : Type} [Rp α] {e : TypeId} {A : Option Addr} {c i : Nat} {l l' : List α} {Ξ' : List Xsn} {a : Act} {w : World} (hi : At (row e A c l) i Ξ) (he : l = l') (hs : SetAt (row e A c l') i Ξ Ξ') (h : St M0 F0 w0 n σ Ξ Γ a w) : St M0 F0 w0 n σ Ξ' Γ a w := by
  subst he
  obtain ⟨rfl, hlt⟩ := hs.eq
  have : Ξ.set i (row e A c l) = Ξ := by
    refine List.ext_getElem? fun j => ?_
    rw [List.getElem?_set]
    split
    · rename_i e1; subst e1; rw [hi.get]
    · rfl
  rw [this]; exact h
theorem o_strowE {α : Type} [Rp α] {dst : Option Nat} {x y : Operand} {t e : TypeId} {g c : Nat} {l l' : List α} {i j : Nat} {z : α} {yz : Rp.Lay α} {v : Value} {Ξ' : List Xsn} (hdst : dst = none) (hsz : ∀ w, (sizeOf t).run P w = .ok (Rp.size α) w) (hx : ev σ x = some (.pointer (some ⟨g, 0 + j * Rp.size α, none⟩))) (hy : ev σ y = some v)
    (hvc : v.cells = (Rp.enc z yz).toArray) (hi : At (row e (some ⟨g, 0, none⟩) c l) i Ξ) (hj : j < l.length) (he : l.set j z = l') (hs' : SetAt (row e (some ⟨g, 0, none⟩) c l') i Ξ Ξ') (hg : Sub (Rp.asn z yz) Γ) :
    OpR P ⟨dst, .store t x y, ty, pos, af, none⟩ (St M0 F0 w0 n σ Ξ Γ) (St M0 F0 w0 n σ Ξ' Γ) := by
  subst he; exact o_strow hdst hsz hx hy hvc hi hj hs' hg
theorem tab0 {e1 e2 : TypeId} {g c m i : Nat} {hs hs2 : List Hdr} {ls : List (List β)} {Ξ' : List Xsn} {a : Act} {w : World} (hi : At (row (α := Hdr) e1 (some ⟨g, 0, none⟩) c hs) i Ξ) (he1 : hs = hs2) (he2 : [] = ls) (hs' : SetAt (tab (β := β) e1 e2 g c hs2 m [] ls) i Ξ Ξ') (h : St M0 F0 w0 n σ Ξ Γ a w) : St M0 F0 w0 n σ Ξ' Γ a w := by
  subst he1
  subst he2
  obtain ⟨hsl, Fs, hh⟩ := h
  obtain ⟨rfl, _⟩ := hs'.eq
  refine ⟨hsl, Fs, hh.swapX hi.get fun F hF hp => ?_⟩
  have ho := (row_own hp).1
  have e : F = fun b => b = g := funext fun b => propext (ho b)
  subst e
  exact ⟨hp, by simp, rfl, fun j b l hj => by simp at hj, fun x => by simp⟩
theorem isTabH {e1 e2 : TypeId} {g c m i j : Nat} {hs : List Hdr} {gs : List Nat} {ls : List (List β)} {h : Hdr} (hi : At (tab e1 e2 g c hs m gs ls) i Ξ) (hj : hs[j]? = some h) : ∀ a w, St M0 F0 w0 n σ Ξ Γ a w → Is g (0 + j * Rp.size Hdr) [.slice h.A h.n h.c] w := by
  rintro a w ⟨_, Fs, hh⟩
  obtain ⟨F, hF, hp⟩ := hh.ex.at hi.get
  obtain ⟨_, h1, _⟩ := row_at hp.1 hj
  exact h1
theorem isTab {e1 e2 : TypeId} {g c m i j k b : Nat} {hs : List Hdr} {gs : List Nat} {ls : List (List β)} {l : List β} {x : β} (hi : At (tab e1 e2 g c hs m gs ls) i Ξ) (hb : gs[j]? = some b) (hl : ls[j]? = some l) (hk : l[k]? = some x) : ∀ a w, St M0 F0 w0 n σ Ξ Γ a w → ∃ y : Rp.Lay β, Is b (0 + k * Rp.size β) (Rp.enc x y) w := by
  rintro a w ⟨_, Fs, hh⟩
  obtain ⟨F, hF, hp⟩ := hh.ex.at hi.get
  obtain ⟨y, h1, _⟩ := row_at (hp.2.2.2.1 j b l hb hl) hk
  exact ⟨y, h1⟩
theorem isTabI {e1 e2 : TypeId} {g c m i j k b : Nat} {hs : List Hdr} {gs : List Nat} {ls : List (List Int)} {l : List Int} {x : Int} (hi : At (tab e1 e2 g c hs m gs ls) i Ξ) (hb : gs[j]? = some b) (hl : ls[j]? = some l) (hk : l[k]? = some x) : ∀ a w, St M0 F0 w0 n σ Ξ Γ a w → Is b (0 + k * Rp.size Int) [.int .i64 x] w := fun a w h => by
  obtain ⟨_, h1⟩ := isTab hi hb hl hk a w h
  exact h1
theorem o_tst {dst : Option Nat} {x y : Operand} {t e1 e2 : TypeId} {g c m i j k b : Nat} {hs : List Hdr} {gs : List Nat} {ls : List (List β)} {l : List β} {z : β} {yz : Rp.Lay β} {v : Value} {ls' : List (List β)} {Ξ' : List Xsn} (hdst : dst = none) (hsz : ∀ w, (sizeOf t).run P w = .ok (Rp.size β) w) (hx : ev σ x = some (.pointer (some ⟨b, 0 + k * Rp.size β, none⟩))) (hy : ev σ y = some v)
    (hvc : v.cells = (Rp.enc z yz).toArray) (hi : At (tab e1 e2 g c hs m gs ls) i Ξ) (hb : gs[j]? = some b) (hl : ls[j]? = some l) (hk : k < l.length) (he : ls.set j (l.set k z) = ls') (hs' : SetAt (tab e1 e2 g c hs m gs ls') i Ξ Ξ') (hg : Sub (Rp.asn z yz) Γ) :
    OpR P ⟨dst, .store t x y, ty, pos, af, none⟩ (St M0 F0 w0 n σ Ξ Γ) (St M0 F0 w0 n σ Ξ' Γ) := by
  subst hdst
  subst he
  refine OpR.of_skip rfl fun a w ⟨hsl, Fs, hh⟩ => ?_
  obtain ⟨rfl, _⟩ := hs'.eq
  obtain ⟨F, hF, hr, hnd, hlen, hrow, hFx⟩ := hh.ex.at hi.get
  have hmem := List.mem_of_getElem? hb
  have hFb : F b := (hFx b).2 (List.mem_cons_of_mem _ hmem)
  have hMb : (fun b => M0 b ∨ own Fs b) b := .inr ⟨F, List.mem_of_getElem? hF, hFb⟩
  obtain ⟨w', h1, h2, h3⟩ := row_set (P := P) (hrow j b l hb hl) hMb hk z yz (fun p hp => hh.ga p (hg.mem p hp))
  have hnd' := List.nodup_cons.1 hnd
  have hne : ∀ {u : Nat → Prop} {b' : Nat}, b' < w.heap.size → b' ≠ b → w'.heap[b']? = w.heap[b']? := fun hlt hne => h2.block _ hlt hne
  have hother : ∀ {γ : Type} [Rp γ] (e : TypeId) (b' cc : Nat) (l' : List γ), b' ≠ b → (row e (some ⟨b', 0, none⟩) cc l').p (fun x => x = b') (fun b => M0 b ∨ own Fs b) w → (row e (some ⟨b', 0, none⟩) cc l').p (fun x => x = b') (fun b => M0 b ∨ own Fs b) w' := by
    intro γ _ e b' cc l' hbb hp
    refine (row _ _ _ _).st _ _ _ _ _ hp (fun u hlt hF' => h2.block u hlt ?_) (fun _ _ h => h) h2.size
    rintro rfl
    rcases hF' with e' | hn
    · exact hbb e'.symm
    · exact hn hMb
  refine ⟨w', ?_, hsl, Fs, hh.set hF (w' := w') ⟨h2.os, h2.tape, h2.output, h2.size, fun u hlt hn => h2.block u hlt (fun e => hn (by rw [e]; exact hFb))⟩ ⟨hother _ _ _ _ (fun e => hnd'.1 (by rw [e]; exact hmem)) hr, hnd, by rw [List.length_set]; exact hlen, fun j' b' l' hb' hl' => ?_, hFx⟩⟩
  · simp only [execOp, hsl.ev hx, hsl.ev hy, Instr.storeAt, Instr.sureAddr, storeVar, Sem.run_bind, Sem.run_pure, Result.andThen_ok, hsz, hvc, List.size_toArray, ne_eq, not_true_eq_false, if_false]
    rw [Nat.zero_add] at h1
    simp [Rp.len, h1]
  · by_cases hj : j = j'
    · subst hj
      rw [hb] at hb'; cases hb'
      rw [List.getElem?_set_self (List.getElem?_eq_some_iff.1 hl).1] at hl'
      cases hl'
      exact h3
    · rw [List.getElem?_set_ne hj] at hl'
      refine hother _ _ _ _ (fun e => hj ?_) (hrow j' b' l' hb' hl')
      subst e
      exact (List.getElem?_inj (List.getElem?_eq_some_iff.1 hb).1 hnd'.2).1 (hb.trans hb'.symm)
theorem o_tput {dst : Option Nat} {x y : Operand} {t e1 e2 : TypeId} {g c m i j k b : Nat} {hs : List Hdr} {gs : List Nat} {ls : List (List β)} {l : List β} {Ξ1 : List Xsn} {nn cc : Nat} {hs' : List Hdr} {ls' : List (List β)} (hdst : dst = none) (hsz : ∀ w, (sizeOf t).run P w = .ok 1 w) (hx : ev σ x = some (.pointer (some ⟨g, 0 + j * Rp.size Hdr, none⟩))) (hy : ev σ y = some (.slice (some ⟨b, 0, none⟩) nn cc))
    (ht : takeAll [i, k] Ξ = some ([tab e1 e2 g c hs m gs ls, row (α := β) e2 (some ⟨b, 0, none⟩) m l], Ξ1)) (hj : j < hs.length) (he1 : hs.set j ⟨some ⟨b, 0, none⟩, nn, cc⟩ = hs') (he2 : ls ++ [l] = ls') :
    OpR P ⟨dst, .store t x y, ty, pos, af, none⟩ (St M0 F0 w0 n σ Ξ Γ) (St M0 F0 w0 n σ (tab e1 e2 g c hs' m (gs ++ [b]) ls' :: Ξ1) Γ) := by
  subst hdst
  subst he1
  subst he2
  refine OpR.of_skip rfl fun a w ⟨hsl, Fs, hh⟩ => ?_
  obtain ⟨Gs, Hs, hp, hin, hrest⟩ := hh.select (Γi := []) ht (fun p hp => by cases hp)
  obtain ⟨G1, G2, rfl⟩ : ∃ G1 G2, Gs = [G1, G2] := by
    match Gs, hin.ex with
    | [], h => exact h.elim
    | [_], h => exact h.2.elim
    | [G1, G2], _ => exact ⟨G1, G2, rfl⟩
    | _ :: _ :: _ :: _, h => exact h.2.2.elim
  obtain ⟨⟨hr, hnd, hlen, hrow, hFx⟩, hb, _⟩ := hin.ex
  have hpw := hin.dis
  have hb0 := row_own hb
  have e2' : G2 = fun x => x = b := funext fun u => propext (hb0.1 u)
  have hdis : ∀ u, G1 u → ¬ G2 u := (List.pairwise_cons.1 hpw).1 G2 (by simp)
  have hG1g : G1 g := (hFx g).2 (by simp)
  have hMg : (fun u => (fun b => M0 b ∨ own Hs b) u ∨ own [G1, G2] u) g := .inr ⟨G1, by simp, hG1g⟩
  obtain ⟨w', h1, h2, h3⟩ := row_set (P := P) hr hMg hj ⟨some ⟨b, 0, none⟩, nn, cc⟩ () (fun p hp => by cases hp)
  have hbn : b ∉ g :: gs := fun hm => hdis b ((hFx b).2 hm) ((hb0.1 b).2 rfl)
  have hnd' := List.nodup_cons.1 hnd
  have hother : ∀ {γ : Type} [Rp γ] (e : TypeId) (b' cc' : Nat) (l' : List γ), b' ≠ g → (row e (some ⟨b', 0, none⟩) cc' l').p (fun x => x = b') (fun u => (fun b => M0 b ∨ own Hs b) u ∨ own [G1, G2] u) w → (row e (some ⟨b', 0, none⟩) cc' l').p (fun x => x = b') (fun u => (fun b => M0 b ∨ own Hs b) u ∨ own [G1, G2] u) w' := by
    intro γ _ e b' cc' l' hbb hp
    refine (row _ _ _ _).st _ _ _ _ _ hp (fun u hlt hF' => h2.block u hlt ?_) (fun _ _ h => h) h2.size
    rintro rfl
    rcases hF' with e' | hn
    · exact hbb e'.symm
    · exact hn hMg
  let G : Nat → Prop := fun u => G1 u ∨ G2 u
  have hG : ∀ u, own [G] u ↔ own [G1, G2] u := fun u => by simp [own_cons, own_nil, G]
  have hM2 : (fun u => (fun b => M0 b ∨ own Hs b) u ∨ own [G] u) = (fun u => (fun b => M0 b ∨ own Hs b) u ∨ own [G1, G2] u) := funext fun u => by rw [hG u]
  have key : Hp (fun b => M0 b ∨ own Hs b) (own [G1, G2]) w [tab e1 e2 g c (hs.set j ⟨some ⟨b, 0, none⟩, nn, cc⟩) m (gs ++ [b]) (ls ++ [l])] [] [G] w' := by
    refine ⟨⟨?_, trivial⟩, List.pairwise_singleton _ _, ?_, ?_, ?_, fun p hp => (by cases hp), ⟨h2.os, h2.tape, h2.output, h2.size, fun u hlt hn => h2.block u hlt (fun e => hn (by rw [e]; exact ⟨G1, by simp, hG1g⟩))⟩, hin.m0, hin.f0⟩
    · rw [hM2]
      refine ⟨h3, ?_, by simp [hlen], fun j' b' l' hb' hl' => ?_, fun u => ?_⟩
      · rw [← List.cons_append]
        exact List.nodup_append.2 ⟨hnd, by simp, fun u hu v hv => by rw [List.mem_singleton.1 hv]; exact fun e => hbn (e ▸ hu)⟩
      · rcases Nat.lt_or_ge j' gs.length with hlt | hge
        · rw [List.getElem?_append_left hlt] at hb'
          rw [List.getElem?_append_left (by omega)] at hl'
          exact hother _ _ _ _ (fun e => hnd'.1 (by rw [← e]; exact List.mem_of_getElem? hb')) (hrow j' b' l' hb' hl')
        · rw [List.getElem?_append_right hge] at hb'
          rw [List.getElem?_append_right (by omega)] at hl'
          have hj0 : j' - gs.length = 0 := by have := (List.getElem?_eq_some_iff.1 hb').1; simpa using this
          rw [hj0] at hb'
          rw [show j' - ls.length = 0 by omega] at hl'
          simp at hb' hl'
          subst hb'; subst hl'
          exact hother _ _ _ _ (fun e => hbn (by rw [e]; simp)) (by rw [e2'] at hb ⊢; exact hb)
      · show G1 u ∨ G2 u ↔ _
        rw [hFx u, hb0.1 u]
        simp only [List.mem_cons, List.mem_append, List.mem_nil_iff, or_false, or_assoc]
    · exact fun u hu => hin.dis0 u ((hG u).1 hu)
    · exact fun u hu => Nat.lt_of_lt_of_le (hin.lt u ((hG u).1 hu)) h2.size
    · exact fun u hu hlt => (hG u).1 hu
  have hfin : Hp M0 F0 w0 (tab e1 e2 g c (hs.set j ⟨some ⟨b, 0, none⟩, nn, cc⟩) m (gs ++ [b]) (ls ++ [l]) :: Ξ1) Γ ([G] ++ Hs) w' := by
    have := hh.back hp hrest key
    simpa using this
  refine ⟨w', ?_, hsl, [G] ++ Hs, hfin⟩
  have hc : (Value.slice (some ⟨b, 0, none⟩) nn cc).cells = #[.slice (some ⟨b, 0, none⟩) nn cc] := rfl
  have h1' : (storeCells ⟨g, 0 + j * Rp.size Hdr, none⟩ [.slice (some ⟨b, 0, none⟩) nn cc]).run P w = .ok () w' := h1
  simp only [execOp, hsl.ev hx, hsl.ev hy, Instr.storeAt, Instr.sureAddr, storeVar, Sem.run_bind, Sem.run_pure, Result.andThen_ok, hsz]
  rw [Nat.zero_add] at h1'
  simp [hc, h1']
theorem freezeTab {e1 e2 : TypeId} {g c m i : Nat} {hs : List Hdr} {gs : List Nat} {ls : List (List β)} {Ξ' : List Xsn} {a : Act} {w : World} (hi : takeAt i Ξ = some (tab e1 e2 g c hs m gs ls, Ξ')) (hh0 : hs = gs.map (fun b => ⟨some ⟨b, 0, none⟩, m, m⟩)) (hm : ∀ l ∈ ls, l.length = m) (h : St M0 F0 w0 n σ Ξ Γ a w) : St M0 F0 w0 n σ Ξ' (slA (some ⟨g, 0, none⟩) ls :: Γ) a w := by
  obtain ⟨hs', Fs, hh⟩ := h
  obtain ⟨F, Fs', h1, ⟨hr, hnd, hlen, hrow, hFx⟩, h3⟩ := hh.ex.takeAt hi
  have hp := takeAt_perm h1
  have hown : ∀ b, own Fs b ↔ F b ∨ own Fs' b := fun b => (own_perm hp b).trans own_cons
  have hpw := List.pairwise_cons.1 (perm_pairwise hp hh.dis)
  have hM : ∀ b, b < w.heap.size → (M0 b ∨ own Fs' b) → (M0 b ∨ own Fs b) := fun b _ hm => hm.imp id (fun h => (hown b).2 (.inr h))
  have hFn : ∀ b, F b → ¬ (M0 b ∨ own Fs' b) := by
    rintro b hb (hm | ⟨G, hG, hg'⟩)
    · exact hh.dis0 b ((hown b).2 (.inl hb)) hm
    · exact hpw.1 G hG b hb hg'
  refine ⟨hs', Fs', h3.st (fun _ _ _ => rfl) hM (Nat.le_refl _), hpw.2, fun b hb => hh.dis0 b ((hown b).2 (.inr hb)), fun b hb => hh.lt b ((hown b).2 (.inr hb)), fun b hb => hh.old b ((hown b).2 (.inr hb)), ?_, hh.up, hh.m0, hh.f0⟩
  intro p hp'
  rcases List.mem_cons.1 hp' with rfl | hp'
  · intro j l hj
    have hjl := (List.getElem?_eq_some_iff.1 hj).1
    have hjg : j < gs.length := by omega
    have hb : gs[j]? = some gs[j] := List.getElem?_eq_getElem hjg
    have hjh : hs[j]? = some ⟨some ⟨gs[j], 0, none⟩, m, m⟩ := by rw [hh0, List.getElem?_map, hb]; rfl
    obtain ⟨_, c1, _⟩ := row_at hr hjh
    have hl := hm l (List.mem_of_getElem? hj)
    have hfg : F g := (hFx g).2 (by simp)
    have hgb : F gs[j] := (hFx _).2 (List.mem_cons_of_mem _ (List.getElem_mem _))
    refine ⟨g, 0, (some ⟨gs[j], 0, none⟩, m), rfl, hFn g hfg, (row_own hr).2, fun i v hv => ?_, fun p hp => ?_⟩
    · have hv' : ([Value.slice (some ⟨gs[j], 0, none⟩) l.length m])[i]? = some v := hv
      rw [hl] at hv'
      exact c1 i v hv'
    · have hrj := hrow j gs[j] l hb hj
      simp only [Rp.asn, List.mem_cons, List.mem_nil_iff, or_false] at hp
      rcases hp with rfl | rfl
      · intro q x hq
        obtain ⟨y, d1, d2⟩ := row_at hrj hq
        exact ⟨gs[j], 0, y, rfl, hFn _ hgb, (row_own hrj).2, d1, fun p hp => p.st _ _ _ _ (d2 p hp) (fun _ _ _ => rfl) hM (Nat.le_refl _)⟩
      · intro h; cases h
  · exact p.st _ _ _ _ (hh.ga p hp') (fun _ _ _ => rfl) hM (Nat.le_refl _)
end
theorem run_eqst2 {P : Program} {w : World} {t e : TypeId} {f0 f1 : Field} {a1 a2 b1 b2 : Int} (ht : P.underlying t = some (.struct #[f0, f1])) (hp : P.stoodInHeld t = false) (h0 : (f0.name == "_") = false) (h1 : (f1.name == "_") = false) (o0 : f0.offset = 0) (o1 : f1.offset = 1) (t0 : f0.type = e) (t1 : f1.type = e)
    (he : P.underlying e = some (.int .i64)) (hag : ∀ w, (isAgg e).run P w = .ok false w) :
    (Op.equalIn 10000 t (.agg #[.int .i64 a1, .int .i64 a2]) (.agg #[.int .i64 b1, .int .i64 b2])).run P w = .ok (decide (a1 = b1) && decide (a2 = b2)) w := by
  have hfo : P.fieldsOf t = #[f0, f1] := by simp [Program.fieldsOf, ht]
  have hq0 : ∀ (g : Nat) (k m : Int), (Op.equalIn (g + 1) e (.int .i64 k) (.int .i64 m)).run P w = .ok (decide (k = m)) w := fun g k m => by
    simp only [Op.equalIn, Sem.run_bind, run_underlying he, Result.andThen_ok, Sem.run_pure]
    by_cases h : k = m <;> simp [h]
  have hq : ∀ (k m : Int), (Op.equalIn 9999 e (.int .i64 k) (.int .i64 m)).run P w = .ok (decide (k = m)) w := fun k m => hq0 9998 k m
  have hpt : ∀ (cs : Array Value) (j : Nat) (v : Value), cs[j]? = some v → (part e cs j).run P w = .ok v w := fun cs j v hj => by
    simp [part, hag, hj]
  have n0 : f0.name ≠ "_" := by simpa using h0
  have n1 : f1.name ≠ "_" := by simpa using h1
  have hp0 : ∀ (x y : Value), (part e #[x, y] 0).run P w = .ok x w := fun x y => hpt _ 0 _ rfl
  have hp1 : ∀ (x y : Value), (part e #[x, y] 1).run P w = .ok y w := fun x y => hpt _ 1 _ rfl
  rw [show (10000 : Nat) = 9999 + 1 from rfl, run_equalIn_struct w 9999 t _ _ (by rw [hfo]; exact ht) hp, hfo]
  simp only [Op.eqFields, t0, t1, o0, o1, n0, n1, ne_eq, not_false_eq_true, if_true, Sem.run_bind, hp0, hp1, hq, Result.andThen_ok]
  by_cases h : a1 = b1 <;> by_cases h' : a2 = b2 <;> simp [h, h', hp1, hq]
theorem p_eqst2 {P : Program} {n : Nm} {σ : List (Nat × Value)} {d : Nat} {ty : TypeId} {pos : String} {af : Array Edge} {T : World → Prop} {x y : Operand} {t e t' : TypeId} {f0 f1 : Field} {a1 a2 b1 b2 : Int} (ht : P.underlying t = some (.struct #[f0, f1])) (hp : P.stoodInHeld t = false) (h0 : (f0.name == "_") = false) (h1 : (f1.name == "_") = false) (o0 : f0.offset = 0) (o1 : f1.offset = 1) (t0 : f0.type = e) (t1 : f1.type = e)
    (he : P.underlying e = some (.int .i64)) (hag : ∀ w, (isAgg e).run P w = .ok false w) (hm : P.eqGuardType P.depth t = false)
    (hx : ev σ x = some (.agg #[.int .i64 a1, .int .i64 a2])) (hy : ev σ y = some (.agg #[.int .i64 b1, .int .i64 b2])) :
    Pu P n σ T ⟨some d, .binOp .eql t x y t', ty, pos, af, none⟩ (.bool (decide (a1 = b1) && decide (a2 = b2))) := fun a hs w _ => by
  have hg := run_eqGuard_agg (P := P) (w := w) .eql t x y #[.int .i64 a1, .int .i64 a2] #[.int .i64 b1, .int .i64 b2] hm
  have h2 := run_eql_struct (P := P) (w := w) t #[.int .i64 a1, .int .i64 a2] #[.int .i64 b1, .int .i64 b2]
  have h3 := run_eqst2 (w := w) (a1 := a1) (a2 := a2) (b1 := b1) (b2 := b2) ht hp h0 h1 o0 o1 t0 t1 he hag
  simp [execOp, hs.ev hx, hs.ev hy, hg, h3, h2]
theorem p_nest2 {P : Program} {n : Nm} {σ : List (Nat × Value)} {d : Nat} {ty : TypeId} {pos : String} {af : Array Edge} {T : World → Prop} {x y : Operand} {t e t' : TypeId} {f0 f1 : Field} {a1 a2 b1 b2 : Int} (ht : P.underlying t = some (.struct #[f0, f1])) (hp : P.stoodInHeld t = false) (h0 : (f0.name == "_") = false) (h1 : (f1.name == "_") = false) (o0 : f0.offset = 0) (o1 : f1.offset = 1) (t0 : f0.type = e) (t1 : f1.type = e)
    (he : P.underlying e = some (.int .i64)) (hag : ∀ w, (isAgg e).run P w = .ok false w) (hm : P.eqGuardType P.depth t = false)
    (hx : ev σ x = some (.agg #[.int .i64 a1, .int .i64 a2])) (hy : ev σ y = some (.agg #[.int .i64 b1, .int .i64 b2])) :
    Pu P n σ T ⟨some d, .binOp .neq t x y t', ty, pos, af, none⟩ (.bool !(decide (a1 = b1) && decide (a2 = b2))) := fun a hs w _ => by
  have hg := run_eqGuard_agg (P := P) (w := w) .neq t x y #[.int .i64 a1, .int .i64 a2] #[.int .i64 b1, .int .i64 b2] hm
  have h2 := run_neq_struct (P := P) (w := w) t #[.int .i64 a1, .int .i64 a2] #[.int .i64 b1, .int .i64 b2]
  have h3 := run_eqst2 (w := w) (a1 := a1) (a2 := a2) (b1 := b1) (b2 := b2) ht hp h0 h1 o0 o1 t0 t1 he hag
  simp [execOp, hs.ev hx, hs.ev hy, hg, h3, h2]
/-! tables of numbers -/
def mkT (N M : Nat) (f : Nat → Nat → Int) : List (List Int) := (List.range N).map fun r => (List.range M).map (f r)
def upF (f : Nat → Nat → Int) (r k : Nat) (v : Int) : Nat → Nat → Int := fun r' k' => if r' = r ∧ k' = k then v else f r' k'
theorem mkT_length (N M : Nat) (f) : (mkT N M f).length = N := by simp [mkT]
theorem mkT_row {N M : Nat} {f : Nat → Nat → Int} {r : Nat} (h : r < N) : (mkT N M f)[r]? = some ((List.range M).map (f r)) := by simp [mkT, h]
theorem mkR_at {M : Nat} {f : Nat → Int} {k : Nat} (h : k < M) : ((List.range M).map f)[k]? = some (f k) := by simp [h]
theorem mkR_length (M : Nat) (f : Nat → Int) : ((List.range M).map f).length = M := by simp
theorem mkT_mem {N M : Nat} {f : Nat → Nat → Int} : ∀ l ∈ mkT N M f, l.length = M := by
  intro l hl
  simp only [mkT, List.mem_map] at hl
  obtain ⟨r, _, rfl⟩ := hl
  simp
theorem mkT_ext {N M : Nat} {f g : Nat → Nat → Int} (h : ∀ r k, r < N → k < M → f r k = g r k) : mkT N M f = mkT N M g := by
  unfold mkT
  refine List.map_congr_left fun r hr => List.map_congr_left fun k hk => h r k (List.mem_range.1 hr) (List.mem_range.1 hk)
theorem mkR_set {M : Nat} {f g : Nat → Int} {k : Nat} {v : Int} (h : ∀ k', k' < M → g k' = if k' = k then v else f k') : ((List.range M).map f).set k v = (List.range M).map g := by
  refine List.ext_getElem (by simp) fun i h1 h2 => ?_
  simp only [List.length_set, List.length_map, List.length_range] at h1
  rw [List.getElem_set]
  simp only [List.getElem_map, List.getElem_range]
  rw [h i h1]
  by_cases e : k = i
  · rw [if_pos e, if_pos e.symm]
  · rw [if_neg e, if_neg (fun h => e h.symm)]
theorem mkT_set {N M : Nat} {f g : Nat → Nat → Int} {r k : Nat} {v : Int} (h : ∀ r' k', r' < N → k' < M → g r' k' = if r' = r ∧ k' = k then v else f r' k') : (mkT N M f).set r (((List.range M).map (f r)).set k v) = mkT N M g := by
  refine List.ext_getElem (by simp [mkT]) fun i h1 h2 => ?_
  simp only [List.length_set, mkT_length] at h1
  rw [List.getElem_set]
  simp only [mkT, List.getElem_map, List.getElem_range]
  by_cases e : r = i
  · subst e
    rw [if_pos rfl]
    refine mkR_set fun k' hk' => ?_
    rw [h r k' h1 hk']
    by_cases e2 : k' = k
    · rw [if_pos ⟨rfl, e2⟩, if_pos e2]
    · rw [if_neg (fun h => e2 h.2), if_neg e2]
  · rw [if_neg e]
    refine List.map_congr_left fun k' hk' => ?_
    rw [h i k' h1 (List.mem_range.1 hk'), if_neg (fun h => e h.1.symm)]
theorem mkT_rep {N M k : Nat} (h : k = N) : List.replicate k (List.replicate M (0 : Int)) = mkT N M (fun _ _ => 0) := by
  subst h
  unfold mkT
  refine List.ext_getElem (by simp) fun i h1 h2 => ?_
  simp only [List.getElem_replicate, List.getElem_map]
  refine List.ext_getElem (by simp) fun j h3 h4 => ?_
  simp
def hd (M : Nat) (gs : List Nat) (N : Nat) : List Hdr := gs.map (fun b => ⟨some ⟨b, 0, none⟩, M, M⟩) ++ List.replicate (N - gs.length) ⟨none, 0, 0⟩
theorem hd_0 (M N : Nat) : List.replicate N (⟨none, 0, 0⟩ : Hdr) = hd M [] N := by simp [hd]
theorem hd_length {M : Nat} {gs : List Nat} {N : Nat} (h : gs.length ≤ N) : (hd M gs N).length = N := by simp [hd]; omega
theorem hd_set {M : Nat} {gs : List Nat} {N b : Nat} (h : gs.length < N) : (hd M gs N).set gs.length ⟨some ⟨b, 0, none⟩, M, M⟩ = hd M (gs ++ [b]) N := by
  unfold hd
  rw [List.set_append_right _ _ (by simp), List.length_map, Nat.sub_self, show N - gs.length = (N - (gs ++ [b]).length) + 1 by simp; omega, List.replicate_succ, List.set_cons_zero, List.map_append, List.append_assoc]
  rfl
theorem hd_all {M : Nat} {gs : List Nat} {N : Nat} (h : gs.length = N) : hd M gs N = gs.map (fun b => ⟨some ⟨b, 0, none⟩, M, M⟩) := by simp [hd, h]
theorem hd_at {M : Nat} {gs : List Nat} {N j : Nat} (h : gs.length = N) (hj : j < gs.length) : (hd M gs N)[j]? = some ⟨some ⟨gs[j], 0, none⟩, M, M⟩ := by
  rw [hd_all h, List.getElem?_map, List.getElem?_eq_getElem hj]; rfl
instance instRpPair : Rp (Nat × Nat) where
  Lay := Unit
  size := 2
  enc x _ := [.int .i64 (x.1 : Int), .int .i64 (x.2 : Int)]
  len _ _ := rfl
  one _ _ v hv := by
    simp only [List.mem_cons, List.mem_nil_iff, or_false] at hv
    rcases hv with rfl | rfl <;> rfl
  asn _ _ := []
end Go.Sx

end
section
set_option linter.unusedVariables false
set_option linter.unusedSimpArgs false
namespace Go.Proofs.YtdbiillompeclaaGreatDoor.X
open Go Go.RowKit Go.Proofs Go.Sx
/-! Lines that two rows have in common. -/
def lcsGo (x : ByteArray) (f : List ByteArray → Nat) : List ByteArray → Nat
  | [] => 0
  | y :: b => if x = y then f b + 1 else max (f (y :: b)) (lcsGo x f b)
def lcs : List ByteArray → List ByteArray → Nat
  | [] => fun _ => 0
  | x :: a => lcsGo x (lcs a)
theorem lcs_nil (b : List ByteArray) : lcs [] b = 0 := rfl
theorem lcs_nilr (a : List ByteArray) : lcs a [] = 0 := by cases a <;> rfl
theorem lcs_cons (x y : ByteArray) (a b : List ByteArray) : lcs (x :: a) (y :: b) = if x = y then lcs a b + 1 else max (lcs a (y :: b)) (lcs (x :: a) b) := rfl
theorem sub_tail {c a : List ByteArray} {x : ByteArray} (h : c.Sublist (x :: a)) : c.tail.Sublist a := by
  cases h with
  | cons _ h => exact (List.tail_sublist c).trans h
  | cons_cons _ h => exact h
theorem lcs_ub : ∀ (n : Nat) (a b c : List ByteArray), a.length + b.length ≤ n → c.Sublist a → c.Sublist b → c.length ≤ lcs a b := by
  intro n
  induction n with
  | zero =>
    intro a b c hn h1 h2
    have h3 := h1.length_le
    omega
  | succ n ih =>
    intro a b c hn h1 h2
    cases a with
    | nil => have := h1.length_le; simp at this; simp [this]
    | cons x a =>
      cases b with
      | nil => have := h2.length_le; simp at this; simp [this]
      | cons y b =>
        simp only [List.length_cons] at hn
        rw [lcs_cons]
        split
        · have := ih a b c.tail (by omega) (sub_tail h1) (sub_tail h2)
          simp only [List.length_tail] at this
          omega
        · rename_i hne
          cases h1 with
          | cons _ h1 => have := ih a (y :: b) c (by simp; omega) h1 h2; omega
          | @cons_cons c' _ _ h1 =>
            cases h2 with
            | cons _ h2 => have := ih (x :: a) b (x :: c') (by simp; omega) (h1.cons_cons x) h2; omega
            | cons_cons _ h2 => exact absurd rfl hne
theorem lcs_ex : ∀ (n : Nat) (a b : List ByteArray), a.length + b.length ≤ n → ∃ c, List.Sublist c a ∧ List.Sublist c b ∧ c.length = lcs a b := by
  intro n
  induction n with
  | zero =>
    intro a b hn
    obtain rfl : a = [] := List.length_eq_zero_iff.1 (by omega)
    exact ⟨[], List.nil_sublist _, List.nil_sublist _, (lcs_nil b).symm⟩
  | succ n ih =>
    intro a b hn
    cases a with
    | nil => exact ⟨[], List.nil_sublist _, List.nil_sublist _, (lcs_nil b).symm⟩
    | cons x a =>
      cases b with
      | nil => exact ⟨[], List.nil_sublist _, List.nil_sublist _, (lcs_nilr _).symm⟩
      | cons y b =>
        simp only [List.length_cons] at hn
        rw [lcs_cons]
        split
        · rename_i e
          subst e
          obtain ⟨c, h1, h2, h3⟩ := ih a b (by omega)
          exact ⟨x :: c, h1.cons_cons x, h2.cons_cons x, by simp [h3]⟩
        · obtain ⟨c, h1, h2, h3⟩ := ih a (y :: b) (by simp; omega)
          obtain ⟨d, k1, k2, k3⟩ := ih (x :: a) b (by simp; omega)
          rcases Nat.le_total (lcs a (y :: b)) (lcs (x :: a) b) with h | h
          · exact ⟨d, k1, k2.cons y, by omega⟩
          · exact ⟨c, h1.cons x, h2, by omega⟩
theorem lcs_le {a b c : List ByteArray} (h1 : c.Sublist a) (h2 : c.Sublist b) : c.length ≤ lcs a b := lcs_ub _ a b c (Nat.le_refl _) h1 h2
theorem lcs_has (a b : List ByteArray) : ∃ c, List.Sublist c a ∧ List.Sublist c b ∧ c.length = lcs a b := lcs_ex _ a b (Nat.le_refl _)
theorem lcs_comm (a b : List ByteArray) : lcs a b = lcs b a := by
  obtain ⟨c, h1, h2, h3⟩ := lcs_has a b
  obtain ⟨d, k1, k2, k3⟩ := lcs_has b a
  have := lcs_le h2 h1
  have := lcs_le k2 k1
  omega
theorem lcs_rev (a b : List ByteArray) : lcs a.reverse b.reverse = lcs a b := by
  obtain ⟨c, h1, h2, h3⟩ := lcs_has a b
  obtain ⟨d, k1, k2, k3⟩ := lcs_has a.reverse b.reverse
  have e1 := lcs_le h1.reverse h2.reverse
  have e2 := lcs_le (a := a) (b := b) (c := d.reverse) (by simpa using k1.reverse) (by simpa using k2.reverse)
  rw [List.length_reverse] at e1 e2
  omega
theorem lcs_lip (a b : List ByteArray) (y : ByteArray) : lcs a (y :: b) ≤ lcs a b + 1 := by
  obtain ⟨c, h1, h2, h3⟩ := lcs_has a (y :: b)
  have := lcs_le ((List.tail_sublist c).trans h1) (sub_tail h2)
  simp only [List.length_tail] at this
  omega
theorem lcs_lipl (a b : List ByteArray) (x : ByteArray) : lcs (x :: a) b ≤ lcs a b + 1 := by
  rw [lcs_comm, lcs_comm a b]; exact lcs_lip b a x
theorem lcs_mono (a b : List ByteArray) (y : ByteArray) : lcs a b ≤ lcs a (y :: b) := by
  obtain ⟨c, h1, h2, h3⟩ := lcs_has a b
  rw [← h3]; exact lcs_le h1 (h2.cons y)
theorem lcs_monol (a b : List ByteArray) (x : ByteArray) : lcs a b ≤ lcs (x :: a) b := by
  rw [lcs_comm, lcs_comm _ b]; exact lcs_mono b a x
theorem lcs_self (a : List ByteArray) : lcs a a = a.length := by
  have h1 := lcs_le (List.Sublist.refl a) (List.Sublist.refl a)
  obtain ⟨c, h2, _, h3⟩ := lcs_has a a
  have := h2.length_le
  omega
theorem lcs_lenl (a b : List ByteArray) : lcs a b ≤ a.length := by
  obtain ⟨c, h2, _, h3⟩ := lcs_has a b
  have := h2.length_le
  omega
theorem lcs_lenr (a b : List ByteArray) : lcs a b ≤ b.length := by rw [lcs_comm]; exact lcs_lenl b a
/-! the tables -/
def cmn (a b : List ByteArray) (i k : Nat) : Nat := lcs (a.drop i) (b.drop k)
theorem cmn_end {a b : List ByteArray} {i k : Nat} (h : a.length ≤ i ∨ b.length ≤ k) : cmn a b i k = 0 := by
  unfold cmn
  rcases h with h | h
  · rw [List.drop_eq_nil_of_le h, lcs_nil]
  · rw [List.drop_eq_nil_of_le h, lcs_nilr]
theorem cmn_at {a b : List ByteArray} {i k : Nat} (hi : i < a.length) (hk : k < b.length) : cmn a b i k = if a[i] = b[k] then cmn a b (i + 1) (k + 1) + 1 else max (cmn a b (i + 1) k) (cmn a b i (k + 1)) := by
  unfold cmn
  rw [List.drop_eq_getElem_cons hi, List.drop_eq_getElem_cons hk, lcs_cons]
theorem cmn_eq {a b : List ByteArray} {i k : Nat} (hi : i < a.length) (hk : k < b.length) (h : a[i] = b[k]) : cmn a b i k = cmn a b (i + 1) (k + 1) + 1 := by rw [cmn_at hi hk, if_pos h]
theorem cmn_ne {a b : List ByteArray} {i k : Nat} (hi : i < a.length) (hk : k < b.length) (h : ¬ a[i] = b[k]) : cmn a b i k = max (cmn a b (i + 1) k) (cmn a b i (k + 1)) := by rw [cmn_at hi hk, if_neg h]
theorem cmn_le {a b : List ByteArray} {i k : Nat} : cmn a b i k ≤ b.length - k := by
  have := lcs_lenr (a.drop i) (b.drop k)
  rw [List.length_drop] at this; exact this
theorem cmn_lel {a b : List ByteArray} {i k : Nat} : cmn a b i k ≤ a.length - i := by
  have := lcs_lenl (a.drop i) (b.drop k)
  rw [List.length_drop] at this; exact this
def beg (a b : List ByteArray) (i k : Nat) : Nat := lcs (a.take i).reverse (b.take k).reverse
theorem take_succ_rev {a : List ByteArray} {i : Nat} (hi : i < a.length) : (a.take (i + 1)).reverse = a[i] :: (a.take i).reverse := by
  rw [List.take_succ_eq_append_getElem hi, List.reverse_append]; rfl
theorem beg_0 (a b : List ByteArray) (k : Nat) : beg a b 0 k = 0 := by unfold beg; rw [List.take_zero, List.reverse_nil, lcs_nil]
theorem beg_0r (a b : List ByteArray) (i : Nat) : beg a b i 0 = 0 := by unfold beg; rw [List.take_zero, List.reverse_nil, lcs_nilr]
theorem beg_eq {a b : List ByteArray} {i k : Nat} (hi : i < a.length) (hk : k < b.length) (h : a[i] = b[k]) : beg a b (i + 1) (k + 1) = beg a b i k + 1 := by
  unfold beg; rw [take_succ_rev hi, take_succ_rev hk, lcs_cons, if_pos h]
theorem beg_ne {a b : List ByteArray} {i k : Nat} (hi : i < a.length) (hk : k < b.length) (h : ¬ a[i] = b[k]) : beg a b (i + 1) (k + 1) = max (beg a b i (k + 1)) (beg a b (i + 1) k) := by
  unfold beg; rw [take_succ_rev hi, take_succ_rev hk, lcs_cons, if_neg h]
theorem beg_lip {a b : List ByteArray} {i k : Nat} (hi : i < a.length) (hk : k < b.length) : beg a b i (k + 1) ≤ beg a b i k + 1 ∧ beg a b (i + 1) k ≤ beg a b i k + 1 := by
  unfold beg; rw [take_succ_rev hi, take_succ_rev hk]; exact ⟨lcs_lip _ _ _, lcs_lipl _ _ _⟩
theorem beg_all (a b : List ByteArray) : beg a b a.length b.length = lcs a b := by
  unfold beg; rw [List.take_length, List.take_length, lcs_rev]
theorem beg_rev (a b : List ByteArray) {i k : Nat} (hi : i ≤ a.length) (hk : k ≤ b.length) : beg a.reverse b.reverse (a.length - i) (b.length - k) = cmn a b i k := by
  unfold beg cmn
  rw [List.take_reverse, List.take_reverse, List.reverse_reverse, List.reverse_reverse]
  congr 1 <;> congr 1 <;> omega
/-! the pairs -/
structure Cand (a b : List ByteArray) (i k x y : Nat) : Prop where
  ix : i ≤ x
  ky : k ≤ y
  xl : x < a.length
  yl : y < b.length
  eq : a[x] = b[y]
  n : cmn a b x y = cmn a b i k
theorem cand_ex (a b : List ByteArray) : ∀ (n i k : Nat), a.length - i + (b.length - k) ≤ n → 0 < cmn a b i k → ∃ x y, Cand a b i k x y := by
  intro n
  induction n with
  | zero =>
    intro i k hn h
    rw [cmn_end (.inl (by omega))] at h
    omega
  | succ n ih =>
    intro i k hn h
    by_cases hi : i < a.length
    · by_cases hk : k < b.length
      · by_cases he : a[i] = b[k]
        · exact ⟨i, k, Nat.le_refl _, Nat.le_refl _, hi, hk, he, rfl⟩
        · have h1 := cmn_ne hi hk he
          rcases Nat.le_total (cmn a b (i + 1) k) (cmn a b i (k + 1)) with h2 | h2
          · obtain ⟨x, y, c⟩ := ih i (k + 1) (by omega) (by omega)
            exact ⟨x, y, c.ix, by have := c.ky; omega, c.xl, c.yl, c.eq, by rw [c.n]; omega⟩
          · obtain ⟨x, y, c⟩ := ih (i + 1) k (by omega) (by omega)
            exact ⟨x, y, by have := c.ix; omega, c.ky, c.xl, c.yl, c.eq, by rw [c.n]; omega⟩
      · rw [cmn_end (.inr (by omega))] at h; omega
    · rw [cmn_end (.inl (by omega))] at h; omega
def NextP (a b : List ByteArray) (i k x y : Nat) : Prop := Cand a b i k x y ∧ ∀ x' y', Cand a b i k x' y' → x < x' ∨ x = x' ∧ y ≤ y'
def NoneB (a b : List ByteArray) (i k x y : Nat) : Prop := ∀ x' y', Cand a b i k x' y' → x < x' ∨ x = x' ∧ y ≤ y'
theorem noneB_0 (a b : List ByteArray) (i k : Nat) : NoneB a b i k i k := fun x' y' c => by
  have := c.ix; have := c.ky
  rcases Nat.lt_or_ge i x' with h | h
  · exact .inl h
  · exact .inr ⟨by omega, c.ky⟩
theorem noneB_y {a b : List ByteArray} {i k x y : Nat} (h : NoneB a b i k x y) (hn : ¬ Cand a b i k x y) : NoneB a b i k x (y + 1) := fun x' y' c => by
  rcases h x' y' c with h | ⟨rfl, h⟩
  · exact .inl h
  · rcases Nat.lt_or_ge y y' with h2 | h2
    · exact .inr ⟨rfl, h2⟩
    · have : y = y' := by omega
      subst this; exact absurd c hn
theorem noneB_x {a b : List ByteArray} {i k x y : Nat} (h : NoneB a b i k x y) (hy : b.length ≤ y) : NoneB a b i k (x + 1) k := fun x' y' c => by
  have := c.yl
  have := c.ky
  rcases h x' y' c with h | ⟨rfl, h⟩
  · rcases Nat.lt_or_ge (x + 1) x' with h2 | h2
    · exact .inl h2
    · exact .inr ⟨by omega, c.ky⟩
  · omega
theorem noneB_end {a b : List ByteArray} {i k x y : Nat} (h : NoneB a b i k x y) (hx : a.length ≤ x) : ¬ 0 < cmn a b i k := fun h0 => by
  obtain ⟨x', y', c⟩ := cand_ex a b _ i k (Nat.le_refl _) h0
  have := c.xl
  rcases h x' y' c with h | ⟨h, _⟩ <;> omega
theorem noneB_lt {a b : List ByteArray} {i k x y : Nat} (h : NoneB a b i k x y) (h0 : 0 < cmn a b i k) : x < a.length := by
  rcases Nat.lt_or_ge x a.length with hx | hx
  · exact hx
  · exact absurd h0 (noneB_end h hx)
theorem next_one {a b : List ByteArray} {i k x y x' y' : Nat} (h : NextP a b i k x y) (h' : NextP a b i k x' y') : x = x' ∧ y = y' := by
  rcases h.2 x' y' h'.1 with h1 | ⟨h1, h2⟩ <;> rcases h'.2 x y h.1 with h3 | ⟨h3, h4⟩ <;> omega
inductive Chain (a b : List ByteArray) : List (Nat × Nat) → Nat → Nat → Prop
  | nil : Chain a b [] 0 0
  | snoc {l i k x y} : Chain a b l i k → 0 < cmn a b i k → NextP a b i k x y → Chain a b (l ++ [(x, y)]) (x + 1) (y + 1)
def Comm (a b : List ByteArray) (l : List (Nat × Nat)) : Prop := ∃ i k, Chain a b l i k ∧ cmn a b i k = 0
theorem next_cmn {a b : List ByteArray} {i k x y : Nat} (h : Cand a b i k x y) : cmn a b i k = cmn a b (x + 1) (y + 1) + 1 := by
  rw [← h.n]; exact cmn_eq h.xl h.yl h.eq
theorem Chain.len {a b : List ByteArray} {l : List (Nat × Nat)} {i k : Nat} (h : Chain a b l i k) : l.length + cmn a b i k = lcs a b := by
  induction h with
  | nil => simp [cmn]
  | snoc _ _ hn ih => have := next_cmn hn.1; simp; omega
theorem Chain.le {a b : List ByteArray} {l : List (Nat × Nat)} {i k : Nat} (h : Chain a b l i k) : i ≤ a.length ∧ k ≤ b.length := by
  cases h with
  | nil => exact ⟨Nat.zero_le _, Nat.zero_le _⟩
  | snoc _ _ hn => exact ⟨hn.1.xl, hn.1.yl⟩
theorem Chain.one {a b : List ByteArray} {l : List (Nat × Nat)} {i k : Nat} (h : Chain a b l i k) : ∀ {m : List (Nat × Nat)} {i' k' : Nat}, Chain a b m i' k' → l.length = m.length → l = m ∧ i = i' ∧ k = k' := by
  induction h with
  | nil =>
    intro m i' k' h' hl
    cases h' with
    | nil => exact ⟨rfl, rfl, rfl⟩
    | snoc => simp at hl
  | snoc h0 hp hn ih =>
    intro m i' k' h' hl
    cases h' with
    | nil => simp at hl
    | snoc h0' hp' hn' =>
      obtain ⟨rfl, rfl, rfl⟩ := ih h0' (by simpa using hl)
      obtain ⟨rfl, rfl⟩ := next_one hn hn'
      exact ⟨rfl, rfl, rfl⟩
theorem Comm.len {a b : List ByteArray} {l : List (Nat × Nat)} (h : Comm a b l) : l.length = lcs a b := by
  obtain ⟨i, k, h1, h2⟩ := h
  have := h1.len; omega
theorem Comm.one {a b : List ByteArray} {l m : List (Nat × Nat)} (h : Comm a b l) (h' : Comm a b m) : l = m := by
  have e : l.length = m.length := by rw [h.len, h'.len]
  obtain ⟨i, k, h1, _⟩ := h
  obtain ⟨i', k', h2, _⟩ := h'
  exact (h1.one h2 e).1
theorem Chain.at {a b : List ByteArray} {l : List (Nat × Nat)} {i k : Nat} (h : Chain a b l i k) : (∀ p ∈ l, p.1 < i ∧ p.2 < k ∧ ∃ (h1 : p.1 < a.length) (h2 : p.2 < b.length), a[p.1] = b[p.2]) ∧ l.Pairwise (fun p q => p.1 < q.1 ∧ p.2 < q.2) := by
  induction h with
  | nil => exact ⟨fun p hp => (by cases hp), .nil⟩
  | @snoc l i k x y h0 hp hn ih =>
    have c := hn.1
    refine ⟨fun p hp => ?_, ?_⟩
    · rcases List.mem_append.1 hp with hp | hp
      · obtain ⟨h1, h2, h3⟩ := ih.1 p hp
        have := c.ix; have := c.ky
        exact ⟨by omega, by omega, h3⟩
      · cases List.mem_singleton.1 hp
        exact ⟨Nat.lt_succ_self _, Nat.lt_succ_self _, c.xl, c.yl, c.eq⟩
    · refine List.pairwise_append.2 ⟨ih.2, List.pairwise_singleton _ _, fun p hp q hq => ?_⟩
      cases List.mem_singleton.1 hq
      obtain ⟨h1, h2, _⟩ := ih.1 p hp
      have := c.ix; have := c.ky
      exact ⟨by dsimp only; omega, by dsimp only; omega⟩
/-! there are such pairs -/
theorem lex_least {p : Nat → Nat → Prop} (h : ∃ x y, p x y) : ∃ x y, p x y ∧ ∀ x' y', p x' y' → x < x' ∨ x = x' ∧ y ≤ y' := by
  have h1 : ∃ x, ∃ y, p x y := h
  obtain ⟨hx, hmin⟩ := leastOf_spec h1
  obtain ⟨hy, hmin2⟩ := leastOf_spec hx
  refine ⟨_, _, hy, fun x' y' hp => ?_⟩
  have h2 := hmin x' ⟨y', hp⟩
  rcases Nat.lt_or_ge (leastOf fun x => ∃ y, p x y) x' with h3 | h3
  · exact .inl h3
  · have e : (leastOf fun x => ∃ y, p x y) = x' := by omega
    refine .inr ⟨e, hmin2 y' ?_⟩
    rw [e]; exact hp
theorem next_ex {a b : List ByteArray} {i k : Nat} (h : 0 < cmn a b i k) : ∃ x y, NextP a b i k x y := lex_least (cand_ex a b _ i k (Nat.le_refl _) h)
theorem comm_ex (a b : List ByteArray) : ∃ l, Comm a b l := by
  have key : ∀ (n : Nat) (l : List (Nat × Nat)) (i k : Nat), Chain a b l i k → cmn a b i k ≤ n → ∃ l, Comm a b l := by
    intro n
    induction n with
    | zero => intro l i k h hn; exact ⟨l, i, k, h, by omega⟩
    | succ n ih =>
      intro l i k h hn
      rcases Nat.eq_zero_or_pos (cmn a b i k) with h0 | h0
      · exact ⟨l, i, k, h, h0⟩
      · obtain ⟨x, y, hxy⟩ := next_ex h0
        have := next_cmn hxy.1
        exact ih _ _ _ (h.snoc h0 hxy) (by omega)
  exact key _ [] 0 0 Chain.nil (Nat.le_refl _)
noncomputable def commF (a b : List ByteArray) : List (Nat × Nat) := Classical.choose (comm_ex a b)
theorem commF_spec (a b : List ByteArray) : Comm a b (commF a b) := Classical.choose_spec (comm_ex a b)
theorem Comm.eq {a b : List ByteArray} {l : List (Nat × Nat)} (h : Comm a b l) : l = commF a b := h.one (commF_spec a b)
end Go.Proofs.YtdbiillompeclaaGreatDoor.X

end
section
set_option linter.unusedVariables false
set_option linter.unusedSimpArgs false
namespace Go.Sx
open Go Go.RowKit
def appliedT (M : List File) (ps : List Prim) : List File := ps.foldl (fun T p => (rApplyT T p).1) M
theorem appliedT_succ {M : List File} {ps : List Prim} {k : Nat} (h : k < ps.length) : appliedT M (ps.take (k + 1)) = (rApplyT (appliedT M (ps.take k)) ps[k]).1 := by
  unfold appliedT
  rw [List.take_succ_eq_append_getElem h, List.foldl_append]; rfl
def news (ps : List Prim) : Nat := (ps.map fun p => p.new.length).sum
theorem news_le (ps : List Prim) : news ps ≤ many ps := by
  unfold news many
  have : (ps.map fun p => p.new.length).sum ≤ (ps.map Prim.many).sum := by
    induction ps with
    | nil => simp
    | cons p ps ih =>
      simp only [List.map_cons, List.sum_cons]
      have : p.new.length ≤ p.many := by unfold Prim.many; omega
      omega
  omega
theorem news_take (ps : List Prim) (k : Nat) : news (ps.take k) ≤ news ps := by
  have e : news ps = news (ps.take k) + news (ps.drop k) := by
    unfold news
    rw [← List.sum_append, ← List.map_append, List.take_append_drop]
  omega
structure AppInv (m n : Nat) (T : List File) : Prop where
  so : Sor T
  good : Good T
  lmax : Lmax m T
  len : T.length ≤ n
theorem AppInv.apply {m n : Nat} {T : List File} (h : AppInv m n T) (p : Prim) : AppInv (m + p.new.length) (n + 1) (rApplyT T p).1 :=
  ⟨rApply_sor h.so p, rApply_good h.good p, rApply_lmax h.lmax p, Nat.le_trans (rApply_len T p) (Nat.succ_le_succ h.len)⟩
theorem AppInv.made (l : List TOp) : AppInv (omany l) l.length (madeT l) := by
  have ht : Tok l.length (omany l) (madeT l) := madeT_tok fun o ho => omany_mem ho
  exact ⟨madeT_sor l, madeT_good l, fun x hx => (ht.fit x hx).1, ht.len⟩
theorem AppInv.applied {m n : Nat} {M : List File} (h : AppInv m n M) : ∀ (ps : List Prim), AppInv (m + news ps) (n + ps.length) (appliedT M ps) := by
  intro ps
  induction ps generalizing M m n with
  | nil => exact h
  | cons p ps ih =>
    have := ih (h.apply p)
    have e1 : m + p.new.length + news ps = m + news (p :: ps) := by unfold news; simp only [List.map_cons, List.sum_cons]; omega
    have e2 : n + 1 + ps.length = n + (p :: ps).length := by simp only [List.length_cons]; omega
    rw [e1, e2] at this
    exact this
theorem flip_new (p : Prim) : p.flip.new.length ≤ p.old.length + p.new.length := by
  unfold Prim.flip
  repeat' split
  all_goals simp
theorem bne_self' (e : Int) : (!decide (e = e)) = false := by simp
theorem many_one (p : Prim) : many [p] = 1 + p.many := by simp [many]
end Go.Sx

end
section
set_option linter.unusedVariables false
set_option linter.unusedSimpArgs false
namespace Go.Sx
open Go
/-! Prims that were swapped make of any tree what these made. -/
abbrev Tf := ByteArray → Option (List ByteArray)
def upd (f : Tf) (k : ByteArray) (v : Option (List ByteArray)) : Tf := fun x => if x = k then v else f x
theorem upd_at (f : Tf) (k : ByteArray) (v : Option (List ByteArray)) : upd f k v k = v := if_pos rfl
theorem upd_ne (f : Tf) {k x : ByteArray} (v : Option (List ByteArray)) (h : x ≠ k) : upd f k v x = f x := if_neg h
def Step (f : Tf) (p : Prim) (g : Tf) : Prop :=
  if p.kind = 0 then ∃ A B, f p.name = some (A ++ p.old ++ B) ∧ (A.length : Int) = p.pos ∧ g = upd f p.name (some (A ++ p.new ++ B))
  else if p.kind = 1 then f p.name = none ∧ g = upd f p.name (some [])
  else if p.kind = 2 then f p.name = some [] ∧ g = upd f p.name none
  else ∃ l, f p.name = some l ∧ f p.to = none ∧ g = upd (upd f p.name none) p.to (some l)
theorem step0 {f g : Tf} {p : Prim} (h : p.kind = 0) : Step f p g ↔ ∃ A B, f p.name = some (A ++ p.old ++ B) ∧ (A.length : Int) = p.pos ∧ g = upd f p.name (some (A ++ p.new ++ B)) := by
  unfold Step; rw [if_pos h]
theorem step1 {f g : Tf} {p : Prim} (h : p.kind = 1) : Step f p g ↔ f p.name = none ∧ g = upd f p.name (some []) := by
  unfold Step; rw [if_neg (by omega), if_pos h]
theorem step2 {f g : Tf} {p : Prim} (h : p.kind = 2) : Step f p g ↔ f p.name = some [] ∧ g = upd f p.name none := by
  unfold Step; rw [if_neg (by omega), if_neg (by omega), if_pos h]
theorem step3 {f g : Tf} {p : Prim} (h : p.kind = 3) : Step f p g ↔ ∃ l, f p.name = some l ∧ f p.to = none ∧ g = upd (upd f p.name none) p.to (some l) := by
  unfold Step; rw [if_neg (by omega), if_neg (by omega), if_neg (by omega)]
theorem names3 {p : Prim} (h : p.kind = 3) : p.names = [p.name, p.to] := by unfold Prim.names; rw [if_pos h]
theorem namesN {p : Prim} (h : p.kind ≠ 3) : p.names = [p.name] := by unfold Prim.names; rw [if_neg h]
theorem step_off {f g : Tf} {p : Prim} (hr : p.right = true) (h : Step f p g) {k : ByteArray} (hk : k ∉ p.names) : g k = f k := by
  rcases right_kind hr with h0 | h0 | h0 | h0
  · obtain ⟨A, B, _, _, rfl⟩ := (step0 h0).1 h
    rw [namesN (by omega)] at hk; exact upd_ne _ _ (by simpa using hk)
  · obtain ⟨_, rfl⟩ := (step1 h0).1 h
    rw [namesN (by omega)] at hk; exact upd_ne _ _ (by simpa using hk)
  · obtain ⟨_, rfl⟩ := (step2 h0).1 h
    rw [namesN (by omega)] at hk; exact upd_ne _ _ (by simpa using hk)
  · obtain ⟨l, _, _, rfl⟩ := (step3 h0).1 h
    rw [names3 h0] at hk; simp only [List.mem_cons, List.mem_nil_iff, or_false, not_or] at hk
    rw [upd_ne _ _ hk.2, upd_ne _ _ hk.1]
theorem step_local {f g f' g' : Tf} {p : Prim} (hr : p.right = true) (h : Step f p g) (h1 : ∀ k ∈ p.names, f' k = f k) (h2 : ∀ k ∈ p.names, g' k = g k) (h3 : ∀ k, k ∉ p.names → g' k = f' k) : Step f' p g' := by
  have hn : p.name ∈ p.names := by unfold Prim.names; split <;> simp
  rcases right_kind hr with h0 | h0 | h0 | h0
  · obtain ⟨A, B, e1, e2, e3⟩ := (step0 h0).1 h
    refine (step0 h0).2 ⟨A, B, by rw [h1 _ hn, e1], e2, funext fun k => ?_⟩
    by_cases e : k = p.name
    · subst e; rw [h2 _ hn, upd_at, e3, upd_at]
    · rw [upd_ne _ _ e, h3 _ (by rw [namesN (by omega)]; simpa using e)]
  · obtain ⟨e1, e3⟩ := (step1 h0).1 h
    refine (step1 h0).2 ⟨by rw [h1 _ hn, e1], funext fun k => ?_⟩
    by_cases e : k = p.name
    · subst e; rw [h2 _ hn, upd_at, e3, upd_at]
    · rw [upd_ne _ _ e, h3 _ (by rw [namesN (by omega)]; simpa using e)]
  · obtain ⟨e1, e3⟩ := (step2 h0).1 h
    refine (step2 h0).2 ⟨by rw [h1 _ hn, e1], funext fun k => ?_⟩
    by_cases e : k = p.name
    · subst e; rw [h2 _ hn, upd_at, e3, upd_at]
    · rw [upd_ne _ _ e, h3 _ (by rw [namesN (by omega)]; simpa using e)]
  · obtain ⟨l, e1, e2, e3⟩ := (step3 h0).1 h
    have ht : p.to ∈ p.names := by rw [names3 h0]; simp
    refine (step3 h0).2 ⟨l, by rw [h1 _ hn, e1], by rw [h1 _ ht, e2], funext fun k => ?_⟩
    by_cases e : k = p.to
    · subst e; rw [h2 _ ht, upd_at, e3, upd_at]
    · rw [upd_ne _ _ e]
      by_cases e' : k = p.name
      · subst e'; rw [h2 _ hn, upd_at, e3, upd_ne _ _ e, upd_at]
      · rw [upd_ne _ _ e', h3 _ (by rw [names3 h0]; simp [e, e'])]
open Classical in
theorem step_apart {f g h : Tf} {p q : Prim} (hp : p.right = true) (hq : q.right = true) (h1 : Step f p g) (h2 : Step g q h) (hd : ∀ k ∈ p.names, k ∉ q.names) : ∃ m, Step f q m ∧ Step m p h := by
  refine ⟨fun k => if k ∈ q.names then h k else f k, step_local hq h2 (fun k hk => ?_) (fun k hk => if_pos hk) (fun k hk => if_neg hk), step_local hp h1 (fun k hk => if_neg (hd k hk)) (fun k hk => step_off hq h2 (hd k hk)) fun k hk => ?_⟩
  · exact (step_off hp h1 (fun hk' => hd k hk' hk)).symm
  · by_cases e : k ∈ q.names
    · exact (if_pos e).symm
    · rw [if_neg e, step_off hq h2 e, step_off hp h1 hk]
theorem meets_no {p q : Prim} (h : p.meets q = false) : ∀ k ∈ p.names, k ∉ q.names := fun k h1 h2 => by
  have : p.meets q = true := by
    unfold Prim.meets
    rw [List.any_eq_true]
    exact ⟨k, h1, by rw [List.any_eq_true]; exact ⟨k, h2, by simp⟩⟩
  rw [h] at this; cases this
theorem split_at {A B C D : List ByteArray} {o : List ByteArray} (h : A ++ o ++ B = C ++ D) (hl : A.length + o.length ≤ C.length) : ∃ E, C = A ++ o ++ E ∧ B = E ++ D := by
  rw [List.append_eq_append_iff] at h
  rcases h with ⟨E, h1, h2⟩ | ⟨E, h1, h2⟩
  · exact ⟨E, h1, h2⟩
  · have : E = [] := by
      have := congrArg List.length h1
      simp only [List.length_append] at this
      exact List.eq_nil_of_length_eq_zero (by omega)
    subst this
    exact ⟨[], by simpa using h1.symm, by simpa using h2.symm⟩
theorem step_swap {f g h : Tf} {p q a b : Prim} (h1 : Step f p g) (h2 : Step g q h) (hs : swap p q = (a, b, true)) : ∃ m, Step f a m ∧ Step m b h := by
  obtain ⟨hs, hp, hq, ha, hb⟩ := swap_true hs
  rcases swapped_cases hs with ⟨h0, h3, hn, hc, ea, eb⟩ | ⟨h0, h3, hn, hc, ea, eb⟩ | ⟨h0, h3, hn, ea, eb⟩ | ⟨h0, h3, hn, ea, eb⟩ | ⟨h0, h3, hn, ht, ea, eb⟩ | ⟨h0, h3, hn, ea, eb⟩ | ⟨h0, h3, hn, ht, ea, eb⟩ | ⟨h4, h5, h3, hm, ea, eb⟩
  · rw [ea, eb]; obtain ⟨A, B, e1, e2, rfl⟩ := (step0 h0).1 h1
    obtain ⟨C, D, e3, e4, rfl⟩ := (step0 h3).1 h2
    rw [← hn, upd_at] at e3
    obtain ⟨E, rfl, rfl⟩ := split_at (D := q.old ++ D) (by simpa using (Option.some.inj e3)) (by omega)
    refine ⟨upd f p.name (some (A ++ p.old ++ E ++ q.new ++ D)), (step0 (p := { q with pos := q.pos - ((p.new.length : Int) - p.old.length) }) h3).2 ⟨A ++ p.old ++ E, D, ?_, ?_, ?_⟩, (step0 h0).2 ⟨A, E ++ q.new ++ D, ?_, e2, ?_⟩⟩
    · dsimp only; rw [← hn, e1]; simp
    · dsimp only; simp only [List.length_append] at e4 ⊢; omega
    · dsimp only; rw [← hn]
    · rw [upd_at]; simp
    · rw [← hn]; funext k
      by_cases e : k = p.name
      · subst e; rw [upd_at, upd_at]; simp
      · rw [upd_ne _ _ e, upd_ne _ _ e, upd_ne _ _ e, upd_ne _ _ e]
  · rw [ea, eb]; obtain ⟨A, B, e1, e2, rfl⟩ := (step0 h0).1 h1
    obtain ⟨C, D, e3, e4, rfl⟩ := (step0 h3).1 h2
    rw [← hn, upd_at] at e3
    obtain ⟨E, rfl, rfl⟩ := split_at (A := C) (o := q.old) (B := D) (C := A) (D := p.new ++ B) (by simpa using (Option.some.inj e3).symm) (by omega)
    refine ⟨upd f p.name (some (C ++ q.new ++ (E ++ p.old ++ B))), (step0 h3).2 ⟨C, E ++ p.old ++ B, ?_, e4, ?_⟩, (step0 (p := { p with pos := p.pos + ((q.new.length : Int) - q.old.length) }) h0).2 ⟨C ++ q.new ++ E, B, ?_, ?_, ?_⟩⟩
    · rw [← hn, e1]; simp
    · rw [← hn]
    · dsimp only; rw [upd_at]; simp
    · dsimp only; simp only [List.length_append] at e2 ⊢; omega
    · dsimp only; rw [← hn]; funext k
      by_cases e : k = p.name
      · subst e; rw [upd_at, upd_at]; simp
      · rw [upd_ne _ _ e, upd_ne _ _ e, upd_ne _ _ e, upd_ne _ _ e]
  · rw [ea, eb]; exact step_apart hp hq h1 h2 (fun k => by rw [namesN (by omega), namesN (by omega)]; simp only [List.mem_singleton]; rintro rfl; exact hn)
  · rw [ea, eb]; obtain ⟨A, B, e1, e2, rfl⟩ := (step0 h0).1 h1
    obtain ⟨l, e3, e4, rfl⟩ := (step3 h3).1 h2
    rw [← hn, upd_at] at e3
    obtain rfl := Option.some.inj e3
    have hne : q.to ≠ p.name := fun e => by rw [e, upd_at] at e4; cases e4
    rw [upd_ne _ _ hne] at e4
    refine ⟨upd (upd f q.name none) q.to (some (A ++ p.old ++ B)), (step3 h3).2 ⟨_, by rw [← hn, e1], e4, rfl⟩, (step0 (p := { p with name := q.to }) h0).2 ⟨A, B, ?_, e2, ?_⟩⟩
    · dsimp only; rw [upd_at]
    · dsimp only; rw [← hn]; funext k
      by_cases e : k = q.to
      · subst e; rw [upd_at, upd_at]
      · rw [upd_ne _ _ e, upd_ne _ _ e, upd_ne _ _ e]
        by_cases e' : k = p.name
        · subst e'; rw [upd_at, upd_at]
        · rw [upd_ne _ _ e', upd_ne _ _ e', upd_ne _ _ e']
  · rw [ea, eb]; exact step_apart hp hq h1 h2 (fun k => by rw [namesN (by omega), names3 h3]; simp only [List.mem_singleton, List.mem_cons, List.mem_nil_iff, or_false, not_or]; rintro rfl; exact ⟨hn, ht⟩)
  · rw [ea, eb]; obtain ⟨l, e1, e2, rfl⟩ := (step3 h0).1 h1
    obtain ⟨A, B, e3, e4, rfl⟩ := (step0 h3).1 h2
    rw [← hn, upd_at] at e3
    obtain rfl := Option.some.inj e3
    have hne : p.to ≠ p.name := fun e => by rw [e, e1] at e2; cases e2
    refine ⟨upd f p.name (some (A ++ q.new ++ B)), (step0 (p := { q with name := p.name }) h3).2 ⟨A, B, ?_, e4, rfl⟩, (step3 h0).2 ⟨_, upd_at _ _ _, ?_, ?_⟩⟩
    · dsimp only; rw [e1]
    · rw [upd_ne _ _ hne, e2]
    · rw [← hn]; funext k
      by_cases e : k = p.to
      · subst e; rw [upd_at, upd_at]
      · rw [upd_ne _ _ e, upd_ne _ _ e, upd_ne _ _ e]
        by_cases e' : k = p.name
        · subst e'; rw [upd_at, upd_at]
        · rw [upd_ne _ _ e', upd_ne _ _ e', upd_ne _ _ e']
  · rw [ea, eb]; exact step_apart hp hq h1 h2 (fun k => by rw [names3 h0, namesN (by omega)]; simp only [List.mem_singleton, List.mem_cons, List.mem_nil_iff, or_false]; rintro (rfl | rfl); exact ht; exact hn)
  · rw [ea, eb]; exact step_apart hp hq h1 h2 (meets_no hm)
/-! trees -/
theorem hasT_eq (T : List File) (k : ByteArray) : (hasT T k = true ↔ ∃ l, getT T k = some l) := by
  unfold hasT; rw [Option.isSome_iff_exists]
theorem splT_at {l A B o n : List ByteArray} {z : Int} (h : l = A ++ o ++ B) (hz : (A.length : Int) = z) : standsB l z o = true ∧ splT l z o n = A ++ n ++ B := by
  subst hz
  have h1 : standsB l (A.length : Int) o = true := by
    rw [standsB_nat (by rw [h]; simp only [List.length_append]; omega), h, decide_eq_true_eq, List.append_assoc, List.drop_left, List.take_left]
  refine ⟨h1, ?_⟩
  rw [splT_yes h1, h]
  rw [show (A ++ o ++ B).take A.length = A by rw [List.append_assoc, List.take_left], show (A ++ o ++ B).drop (A.length + o.length) = B by rw [← List.length_append, List.drop_left]]
theorem stands_at {l o : List ByteArray} {z : Int} (h : standsB l z o = true) : ∃ A B, l = A ++ o ++ B ∧ (A.length : Int) = z := by
  obtain ⟨k, rfl, h1, h2⟩ := standsB_yes h
  refine ⟨l.take k, (l.drop k).drop o.length, ?_, by rw [List.length_take]; omega⟩
  conv => rhs; rw [← h2]
  rw [List.append_assoc]
  have : ((l.drop k).take o.length).length = o.length := by rw [h2]
  rw [this, List.take_append_drop, List.take_append_drop]
def Ran (T : List File) (p : Prim) (U : List File) : Prop := rApplyT T p = (U, 0)
theorem ran_right {T U : List File} {p : Prim} (h : Ran T p U) : p.right = true := by
  unfold Ran rApplyT at h
  split at h
  · simp at h
  · rename_i h1; simpa using h1
theorem ran_sor {T U : List File} {p : Prim} (h : Ran T p U) (hS : Sor T) : Sor U := by
  have := rApply_sor hS p; rw [h] at this; exact this
theorem ran_step {T U : List File} {p : Prim} (hS : Sor T) (h : Ran T p U) : Step (getT T) p (getT U) := by
  have hr := ran_right h
  unfold Ran rApplyT at h
  rw [if_neg (by simp [hr])] at h
  rcases right_kind hr with h0 | h0 | h0 | h0
  · rw [if_pos h0] at h
    split at h
    · rename_i hc
      obtain ⟨A, B, e1, e2⟩ := stands_at hc.2
      simp only [Prod.mk.injEq, and_true] at h
      refine (step0 h0).2 ⟨A, B, by rw [← e1]; exact hasT_yes hc.1, e2, funext fun k => ?_⟩
      rw [← h, getT_put hS, (splT_at e1 e2).2]; rfl
    · simp at h
  · rw [if_neg (by omega), if_pos h0] at h
    split at h
    · rename_i hc
      simp only [Prod.mk.injEq, and_true] at h
      exact (step1 h0).2 ⟨hasT_no hc, funext fun k => by rw [← h, getT_put hS]; rfl⟩
    · simp at h
  · rw [if_neg (by omega), if_neg (by omega), if_pos h0] at h
    split at h
    · rename_i hc
      simp only [Prod.mk.injEq, and_true] at h
      exact (step2 h0).2 ⟨by rw [hasT_yes hc.1, List.eq_nil_of_length_eq_zero hc.2], funext fun k => by rw [← h, getT_del hS]; rfl⟩
    · simp at h
  · rw [if_neg (by omega), if_neg (by omega), if_neg (by omega), if_pos h0] at h
    split at h
    · rename_i hc
      simp only [Prod.mk.injEq, and_true] at h
      exact (step3 h0).2 ⟨_, hasT_yes hc.1, hasT_no hc.2, funext fun k => by rw [← h, getT_put (hS.del _), getT_del hS]; rfl⟩
    · simp at h
theorem step_ran {T : List File} {p : Prim} {g : Tf} (hS : Sor T) (hr : p.right = true) (h : Step (getT T) p g) : ∃ U, Ran T p U ∧ getT U = g := by
  unfold Ran rApplyT
  rw [if_neg (by simp [hr])]
  rcases right_kind hr with h0 | h0 | h0 | h0
  · obtain ⟨A, B, e1, e2, rfl⟩ := (step0 h0).1 h
    have hL : getL T p.name = A ++ p.old ++ B := by unfold getL; rw [e1]; rfl
    obtain ⟨s1, s2⟩ := splT_at (n := p.new) hL e2
    rw [if_pos h0, if_pos ⟨(hasT_eq _ _).2 ⟨_, e1⟩, s1⟩]
    exact ⟨_, rfl, funext fun k => by rw [getT_put hS, s2]; rfl⟩
  · obtain ⟨e1, rfl⟩ := (step1 h0).1 h
    rw [if_neg (by omega), if_pos h0, if_pos (by unfold hasT; rw [e1]; rfl)]
    exact ⟨_, rfl, funext fun k => by rw [getT_put hS]; rfl⟩
  · obtain ⟨e1, rfl⟩ := (step2 h0).1 h
    rw [if_neg (by omega), if_neg (by omega), if_pos h0, if_pos ⟨(hasT_eq _ _).2 ⟨_, e1⟩, by unfold getL; rw [e1]; rfl⟩]
    exact ⟨_, rfl, funext fun k => by rw [getT_del hS]; rfl⟩
  · obtain ⟨l, e1, e2, rfl⟩ := (step3 h0).1 h
    rw [if_neg (by omega), if_neg (by omega), if_neg (by omega), if_pos h0, if_pos ⟨(hasT_eq _ _).2 ⟨_, e1⟩, by unfold hasT; rw [e2]; rfl⟩]
    refine ⟨_, rfl, funext fun k => ?_⟩
    rw [getT_put (hS.del _), getT_del hS]
    unfold getL; rw [e1]; rfl
theorem ran_swap {T U V : List File} {p q a b : Prim} (hS : Sor T) (h1 : Ran T p U) (h2 : Ran U q V) (hs : swap p q = (a, b, true)) : ∃ M, Ran T a M ∧ Ran M b V := by
  obtain ⟨_, _, _, ha, hb⟩ := swap_true hs
  obtain ⟨m, s1, s2⟩ := step_swap (ran_step hS h1) (ran_step (ran_sor h1 hS) h2) hs
  obtain ⟨M, r1, rfl⟩ := step_ran hS ha s1
  obtain ⟨W, r2, e⟩ := step_ran (ran_sor r1 hS) hb s2
  obtain rfl := getT_ext (ran_sor r2 (ran_sor r1 hS)) (ran_sor h2 (ran_sor h1 hS)) fun k => congrFun e k
  exact ⟨M, r1, r2⟩
/-! rows -/
def Runs : List File → List Prim → List File → Prop
  | T, [], U => T = U
  | T, p :: l, U => ∃ M, Ran T p M ∧ Runs M l U
theorem runs_app {l m : List Prim} {U : List File} : ∀ {T : List File}, Runs T (l ++ m) U ↔ ∃ M, Runs T l M ∧ Runs M m U := by
  induction l with
  | nil => intro T; exact ⟨fun h => ⟨T, rfl, h⟩, fun ⟨M, e, h⟩ => by cases e; exact h⟩
  | cons p l ih =>
    intro T
    show (∃ M, Ran T p M ∧ Runs M (l ++ m) U) ↔ _
    constructor
    · rintro ⟨M, h1, h2⟩
      obtain ⟨N, h3, h4⟩ := ih.1 h2
      exact ⟨N, ⟨M, h1, h3⟩, h4⟩
    · rintro ⟨N, ⟨M, h1, h3⟩, h4⟩
      exact ⟨M, h1, ih.2 ⟨N, h3, h4⟩⟩
theorem runs_sor {l : List Prim} {U : List File} : ∀ {T : List File}, Runs T l U → Sor T → Sor U := by
  induction l with
  | nil => intro T h hS; cases h; exact hS
  | cons p l ih => rintro T ⟨M, h1, h2⟩ hS; exact ih h2 (ran_sor h1 hS)
theorem runs_past {m : List Prim} {U : List File} : ∀ {T : List File} {p q : Prim} {f : List Prim}, Sor T → Runs T (p :: m) U → past1 p m = some (f, q) → Runs T (f ++ [q]) U := by
  induction m with
  | nil =>
    intro T p q f hS h hp
    obtain ⟨rfl, rfl⟩ := pas_nil.1 hp
    exact h
  | cons x m ih =>
    rintro T p q f hS ⟨M, h1, N, h2, h3⟩ hp
    obtain ⟨a, b, f', e1, e2, rfl⟩ := pas_cons.1 hp
    obtain ⟨K, r1, r2⟩ := ran_swap hS h1 h2 e1
    exact ⟨K, r1, ih (ran_sor r1 hS) ⟨N, r2, h3⟩ e2⟩
theorem runs_swapR : ∀ {l m s f t : List Prim} {T U : List File}, Sor T → Runs T (l.reverse ++ m ++ s) U → swapR l m s = some (f, t) → Runs T (f ++ t) U
  | [], m, s, f, t, T, U, hS, h, e => by
    simp only [swapR, Option.some.injEq, Prod.mk.injEq] at e
    obtain ⟨rfl, rfl⟩ := e
    simpa using h
  | p :: l, m, s, f, t, T, U, hS, h, e => by
    rw [swapR, Option.bind_eq_some_iff] at e
    obtain ⟨⟨n, q⟩, e1, e2⟩ := e
    refine runs_swapR hS ?_ e2
    rw [List.reverse_cons, List.append_assoc, List.append_assoc, runs_app] at h
    obtain ⟨M, r1, r2⟩ := h
    rw [show [p] ++ (m ++ s) = (p :: m) ++ s by rfl, runs_app] at r2
    obtain ⟨N, r3, r4⟩ := r2
    rw [List.append_assoc, runs_app]
    refine ⟨M, r1, ?_⟩
    have := runs_past (runs_sor r1 hS) r3 e1
    rw [show n ++ q :: s = (n ++ [q]) ++ s by simp, runs_app]
    exact ⟨N, this, r4⟩
theorem runs_swapL {l m f s : List Prim} {T U : List File} (hS : Sor T) (h : Runs T (l ++ m) U) (e : swapL l m = some (f, s)) : Runs T (f ++ s) U :=
  runs_swapR (l := l.reverse) hS (by simpa using h) e
theorem ran_back {T U : List File} {p : Prim} (hS : Sor T) (hG : Good T) (h : Ran T p U) : Ran U p.flip T := by
  have h1 : (U, (0 : Int)) = applyT T p := by rw [apply_eq hS hG]; exact h.symm
  have hG1 : Good U := by have := rApply_good hG p; rw [h] at this; exact this
  have := apply_back hS hG h1
  rw [apply_eq (ran_sor h hS) hG1] at this
  exact this
theorem runs_good {l : List Prim} {U : List File} : ∀ {T : List File}, Runs T l U → Good T → Good U := by
  induction l with
  | nil => intro T h hG; cases h; exact hG
  | cons p l ih => rintro T ⟨M, h1, h2⟩ hG; exact ih h2 (by have := rApply_good hG p; rw [h1] at this; exact this)
theorem invL_cons (p : Prim) (l : List Prim) : invL (p :: l) = invL l ++ [p.flip] := by simp [invL]
theorem runs_back {l : List Prim} {U : List File} : ∀ {T : List File}, Sor T → Good T → Runs T l U → Runs U (invL l) T := by
  induction l with
  | nil => intro T _ _ h; cases h; exact rfl
  | cons p l ih =>
    rintro T hS hG ⟨M, h1, h2⟩
    rw [invL_cons, runs_app]
    exact ⟨M, ih (ran_sor h1 hS) (by have := rApply_good hG p; rw [h1] at this; exact this) h2, T, ran_back hS hG h1, rfl⟩
end Go.Sx

end
section
set_option linter.unusedVariables false
namespace Go.Proofs.YtdbiillompeclaaGreatDoor.X
open Go Go.RowKit Go.Proofs Go.Sx
structure Patch where
  id : Int
  note : ByteArray
  deps : List Int
  l : List Prim
  deriving DecidableEq
instance instRpPatch : Rp Patch where
  Lay := (Option Addr × Nat) × (Option Addr × Nat)
  size := 4
  enc p y := [.int .i64 p.id, .string p.note, .slice y.1.1 p.deps.length y.1.2, .slice y.2.1 p.l.length y.2.2]
  len _ _ := rfl
  one _ _ v hv := by
    simp only [List.mem_cons, List.mem_nil_iff, or_false] at hv
    rcases hv with rfl | rfl | rfl | rfl <;> rfl
  asn p y := [slA y.1.1 p.deps, slA y.2.1 p.l, capA y.2.2 p.l.length]
def Patch.zero : Patch := ⟨0, ⟨#[]⟩, [], []⟩
structure Patch.fit (p : Patch) : Prop where
  nb : p.note.size ≤ 2000000
  dl : p.deps.length ≤ 2000000
  ll : p.l.length ≤ 2000000
  lf : ∀ x ∈ p.l, x.fit
theorem pzero_fit : Patch.zero.fit := ⟨by decide, by decide, by decide, fun x h => by cases h⟩
theorem slA_none {α : Type} [Rp α] (M : Nat → Prop) (w : World) : (slA none ([] : List α)).p M w := by intro j x hj; simp at hj
def depsOk (id : Int) : Int → List Int → Bool
  | _, [] => true
  | last, n :: r => !(decide (n ≤ last) || decide (1000000000 < n) || decide (n = id)) && depsOk id n r
def Patch.right (p : Patch) : Bool := decide (1 ≤ p.id) && decide (p.id ≤ 1000000000) && lineOk p.note && decide (p.deps.length ≤ 8) && depsOk p.id 0 p.deps && decide (1 ≤ p.l.length) && decide (p.l.length ≤ 24) && p.l.all Prim.right
def pmay (p q : Patch) : Bool := p.right && q.right && !decide (p.id = q.id) && !(q.deps.any fun n => decide (n = p.id)) && !(p.deps.any fun n => decide (n = q.id))
def pswap (p q : Patch) : Patch × Patch × Bool := if (pmay p q && (swT p.l q.l).2.2) = true then ({ q with l := (swT p.l q.l).1 }, { p with l := (swT p.l q.l).2.1 }, true) else (Patch.zero, Patch.zero, false)
theorem swT_ok {l m f s : List Prim} (h : (f, s, true) = swT l m) (hl : ∀ x ∈ l, x.fit) (hm : ∀ x ∈ m, x.fit) : f.length = m.length ∧ s.length = l.length ∧ (∀ x ∈ f, x.fit) ∧ ∀ x ∈ s, x.fit := by
  have key : ∀ (j : Nat) (f1 s1 : List Prim), j ≤ l.length → SI l m j f1 s1 → SI l m l.length f s := by
    intro j
    induction hn : l.length - j generalizing j with
    | zero =>
      intro f1 s1 hj hI
      have hjl : j = l.length := by omega
      have := hI.done hjl
      rw [this] at h
      simp only [Prod.mk.injEq, and_true] at h
      obtain ⟨rfl, rfl⟩ := h
      rw [← hjl]; exact hI
    | succ n ih =>
      intro f1 s1 hj hI
      have hk : (l.length - 1 - j) + j + 1 = l.length := by omega
      have hlt : l.length - 1 - j < l.length := by omega
      cases hp : pastT (l[l.length - 1 - j]) f1 with
      | mk f2 r =>
        obtain ⟨q, b⟩ := r
        cases b with
        | true => exact ih (j + 1) (by omega) f2 (q :: s1) (by omega) (hI.step hk hl hp.symm)
        | false =>
          have := hI.stop hk hp.symm
          rw [this] at h
          simp at h
  have hI := key 0 m [] (Nat.zero_le _) (SI.start hm)
  exact ⟨hI.fl, hI.sl, hI.ff, hI.fs⟩
theorem pswap_fit {p q : Patch} (hp : p.fit) (hq : q.fit) : (pswap p q).1.fit ∧ (pswap p q).2.1.fit := by
  unfold pswap
  split
  · rename_i h
    simp only [Bool.and_eq_true] at h
    have hs : ((swT p.l q.l).1, (swT p.l q.l).2.1, true) = swT p.l q.l := by rw [← h.2]
    obtain ⟨h1, h2, h3, h4⟩ := swT_ok hs hp.lf hq.lf
    exact ⟨⟨hq.nb, hq.dl, by dsimp only; rw [h1]; exact hq.ll, h3⟩, ⟨hp.nb, hp.dl, by dsimp only; rw [h2]; exact hp.ll, h4⟩⟩
  · exact ⟨pzero_fit, pzero_fit⟩
def ppastR : List Patch → Patch → List Patch → Option (Patch × List Patch)
  | [], q, rest => some (q, rest)
  | x :: r, q, rest => if (pswap x q).2.2 = true then ppastR r (pswap x q).1 ((pswap x q).2.1 :: rest) else none
def ppast (l : List Patch) (q : Patch) : Patch × List Patch × Bool := match ppastR l.reverse q [] with
  | some r => (r.1, r.2, true)
  | none => (Patch.zero, [], false)
def groupF : List Patch → List Patch → List Patch → List Patch × List Patch
  | [], g, r => (g, r)
  | q :: l, g, r => if (ppast g q).2.2 = true then groupF l (ppast g q).2.1 (r ++ [(ppast g q).1]) else groupF l (g ++ [q]) r
def group : List Patch → List Patch × List Patch
  | [] => ([], [])
  | p :: l => groupF l [p] []
structure PP (l : List Patch) (q0 : Patch) (j : Nat) (q : Patch) (rest : List Patch) : Prop where
  eq : ppastR l.reverse q0 [] = ppastR (l.reverse.drop j) q rest
  len : rest.length = j
  fq : q.fit
  fr : ∀ x ∈ rest, x.fit
theorem PP.start {l : List Patch} {q : Patch} (h : q.fit) : PP l q 0 q [] := ⟨rfl, rfl, h, by simp⟩
theorem PP.step {l rest : List Patch} {q0 q a b : Patch} {j k : Nat} (h : PP l q0 j q rest) (hk : k + j + 1 = l.length) (hl : ∀ x ∈ l, x.fit) (hp : (a, b, true) = pswap l[k] q) : PP l q0 (j + 1) a (b :: rest) := by
  have hf := pswap_fit (hl _ (List.getElem_mem (show k < l.length by omega))) h.fq
  rw [← hp] at hf
  refine ⟨?_, by simp [h.len], hf.1, fun x hx => ?_⟩
  · rw [h.eq, rev_drop hk, ppastR, ← hp]; rfl
  · rcases List.mem_cons.1 hx with rfl | hx
    · exact hf.2
    · exact h.fr x hx
theorem PP.stop {l rest : List Patch} {q0 q a b : Patch} {j k : Nat} (h : PP l q0 j q rest) (hk : k + j + 1 = l.length) (hp : (a, b, false) = pswap l[k] q) : ppast l q0 = (Patch.zero, [], false) := by
  unfold ppast
  rw [h.eq, rev_drop hk, ppastR, ← hp]; rfl
theorem PP.done {l rest : List Patch} {q0 q : Patch} {j : Nat} (h : PP l q0 j q rest) (hj : j = l.length) : ppast l q0 = (q, rest, true) := by
  unfold ppast
  rw [h.eq, List.drop_eq_nil_of_le (by simp; omega), ppastR]
theorem ppast_ok {l rest : List Patch} {q0 q : Patch} (h : (q, rest, true) = ppast l q0) (hl : ∀ x ∈ l, x.fit) (hq : q0.fit) : rest.length = l.length ∧ q.fit ∧ ∀ x ∈ rest, x.fit := by
  have key : ∀ (j : Nat) (q1 : Patch) (r1 : List Patch), j ≤ l.length → PP l q0 j q1 r1 → PP l q0 l.length q rest := by
    intro j
    induction hn : l.length - j generalizing j with
    | zero =>
      intro f1 s1 hj hI
      have hjl : j = l.length := by omega
      have := hI.done hjl
      rw [this] at h
      simp only [Prod.mk.injEq, and_true] at h
      obtain ⟨rfl, rfl⟩ := h
      rw [← hjl]; exact hI
    | succ n ih =>
      intro f1 s1 hj hI
      have hk : (l.length - 1 - j) + j + 1 = l.length := by omega
      have hlt : l.length - 1 - j < l.length := by omega
      cases hp : pswap (l[l.length - 1 - j]) f1 with
      | mk f2 r =>
        obtain ⟨q, b⟩ := r
        cases b with
        | true => exact ih (j + 1) (by omega) f2 (q :: s1) (by omega) (hI.step hk hl hp.symm)
        | false =>
          have := hI.stop hk hp.symm
          rw [this] at h
          simp at h
  have hI := key 0 q0 [] (Nat.zero_le _) (PP.start hq)
  exact ⟨hI.len, hI.fq, hI.fr⟩
structure GI (l : List Patch) (k : Nat) (g r : List Patch) : Prop where
  eq : group l = if k = 0 then group l else groupF (l.drop k) g r
  zero : k = 0 → g = [] ∧ r = []
  len : g.length + r.length = k
  fg : ∀ x ∈ g, x.fit
  fr : ∀ x ∈ r, x.fit
theorem GI.start (l : List Patch) : GI l 0 [] [] := ⟨by simp, fun _ => ⟨rfl, rfl⟩, rfl, by simp, by simp⟩
theorem GI.first {l : List Patch} (h0 : 0 < l.length) (hl : ∀ x ∈ l, x.fit) : GI l 1 [l[0]] [] := by
  refine ⟨?_, fun h => by omega, rfl, fun x hx => ?_, by simp⟩
  · match l, h0 with
    | p :: l, _ => simp [group]
  · simp at hx; subst hx; exact hl _ (List.getElem_mem _)
theorem GI.yes {l g r rest : List Patch} {q : Patch} {k : Nat} (h : GI l k g r) (hk : k < l.length) (h0 : k ≠ 0) (hl : ∀ x ∈ l, x.fit) (hp : (q, rest, true) = ppast g l[k]) : GI l (k + 1) rest (r ++ [q]) := by
  obtain ⟨h1, h2, h3⟩ := ppast_ok hp h.fg (hl _ (List.getElem_mem hk))
  refine ⟨?_, fun h => by omega, by simp [h1]; have := h.len; omega, h3, fun x hx => ?_⟩
  · have := h.eq
    rw [if_neg h0, List.drop_eq_getElem_cons hk, groupF, ← hp] at this
    simpa using this
  · rcases List.mem_append.1 hx with hx | hx
    · exact h.fr x hx
    · simp at hx; subst hx; exact h2
theorem GI.no {l g r rest : List Patch} {q : Patch} {k : Nat} (h : GI l k g r) (hk : k < l.length) (hl : ∀ x ∈ l, x.fit) (hp : k = 0 ∨ (q, rest, false) = ppast g l[k]) : GI l (k + 1) (g ++ [l[k]]) r := by
  by_cases h0 : k = 0
  · subst h0
    obtain ⟨rfl, rfl⟩ := h.zero rfl
    exact GI.first hk hl
  · have hp := hp.resolve_left h0
    refine ⟨?_, fun h => by omega, by simp; have := h.len; omega, fun x hx => ?_, h.fr⟩
    · have := h.eq
      rw [if_neg h0, List.drop_eq_getElem_cons hk, groupF, ← hp] at this
      simpa using this
    · rcases List.mem_append.1 hx with hx | hx
      · exact h.fg x hx
      · simp at hx; subst hx; exact hl _ (List.getElem_mem _)
theorem GI.done {l g r : List Patch} {k : Nat} (h : GI l k g r) (hk : ¬ k < l.length) : group l = (g, r) := by
  by_cases h0 : k = 0
  · subst h0
    have : l = [] := List.eq_nil_of_length_eq_zero (by omega)
    obtain ⟨rfl, rfl⟩ := h.zero rfl
    rw [this]; rfl
  · have := h.eq
    rw [if_neg h0, List.drop_eq_nil_of_le (by omega), groupF] at this
    exact this
end Go.Proofs.YtdbiillompeclaaGreatDoor.X

end
section
set_option linter.unusedVariables false
namespace Go.Proofs.YtdbiillompeclaaGreatDoor.X
open Go Go.RowKit Go.Proofs Go.Sx
/-! Swapped again, both rows are as they were: a grid read by columns. -/
theorem grid_nil {l f s : List Prim} (h : Grid l [] f s) : f = [] ∧ s = l := by
  generalize hm : ([] : List Prim) = m at h
  induction h with
  | nil => subst hm; exact ⟨rfl, rfl⟩
  | @row l p m n q f s hp hg ih =>
    subst hm
    obtain ⟨rfl, rfl⟩ := pas_nil.1 hp
    obtain ⟨rfl, rfl⟩ := ih rfl
    exact ⟨rfl, rfl⟩
theorem grid_col {l M F s : List Prim} (h : Grid l M F s) : ∀ {m : List Prim} {q : Prim}, M = m ++ [q] → ∃ f x t, F = f ++ [x] ∧ Grid l m f t ∧ Pas x s t q := by
  induction h with
  | @nil M =>
    intro m q hM
    subst hM
    exact ⟨m, q, [], rfl, .nil, pas_nil.2 ⟨rfl, rfl⟩⟩
  | @row l p M N z F s hp hg ih =>
    intro m q hM
    subst hM
    obtain ⟨n, N2, b, h1, h2, rfl⟩ := pas_app.1 hp
    obtain ⟨q', b', f', h3, h4, rfl⟩ := pas_cons.1 h2
    obtain ⟨rfl, rfl⟩ := pas_nil.1 h4
    obtain ⟨f, x, t, rfl, h5, h6⟩ := ih rfl
    exact ⟨f, x, t ++ [b], rfl, .row h1 h5, pas_app.2 ⟨t, [b], q', h6, pas_cons.2 ⟨b, q, [], swap_back h3, pas_nil.2 ⟨rfl, rfl⟩, rfl⟩, rfl⟩⟩
theorem grid_turn : ∀ (n : Nat) {l m f s : List Prim}, m.length = n → Grid l m f s → Grid f s l m
  | 0, l, m, f, s, hn, h => by
    have : m = [] := List.eq_nil_of_length_eq_zero hn
    subst this
    obtain ⟨rfl, rfl⟩ := grid_nil h
    exact .nil
  | n + 1, l, M, F, s, hn, h => by
    obtain ⟨m, q, rfl⟩ : ∃ m q, M = m ++ [q] := ⟨M.dropLast, M.getLast (by intro e; rw [e] at hn; simp at hn), (List.dropLast_concat_getLast _).symm⟩
    obtain ⟨f, x, t, rfl, h1, h2⟩ := grid_col h rfl
    exact .row h2 (grid_turn n (by simpa using hn) h1)
theorem swapR_grid : ∀ (r : List Prim) {m f S second : List Prim}, swapR r m second = some (f, S) ↔ ∃ s, Grid r.reverse m f s ∧ S = s ++ second
  | [], m, f, S, second => by
    simp only [swapR, Option.some.injEq, Prod.mk.injEq, List.reverse_nil]
    constructor
    · rintro ⟨rfl, rfl⟩; exact ⟨[], .nil, rfl⟩
    · rintro ⟨s, h, rfl⟩
      generalize hl : ([] : List Prim) = l at h
      cases h with
      | nil => exact ⟨rfl, rfl⟩
      | @row l' p m n q f s hp hg => simp at hl
  | p :: r, m, f, S, second => by
    rw [swapR, Option.bind_eq_some_iff]
    constructor
    · rintro ⟨⟨n, q⟩, h1, h2⟩
      obtain ⟨s, h3, rfl⟩ := (swapR_grid r).1 h2
      refine ⟨s ++ [q], ?_, by simp⟩
      rw [List.reverse_cons]
      exact .row h1 h3
    · rintro ⟨s, h, rfl⟩
      rw [List.reverse_cons] at h
      generalize hl : r.reverse ++ [p] = l at h
      cases h with
      | nil => simp at hl
      | @row l' p' m n q f s' hp hg =>
        obtain ⟨rfl, h5⟩ := List.append_inj' hl rfl
        obtain rfl : p = p' := by simpa using h5
        exact ⟨(n, q), hp, (swapR_grid r).2 ⟨s', hg, by simp⟩⟩
theorem swapL_grid {l m f s : List Prim} : swapL l m = some (f, s) ↔ Grid l m f s := by
  unfold swapL
  rw [swapR_grid]
  simp only [List.reverse_reverse, List.append_nil]
  constructor
  · rintro ⟨s', h, rfl⟩; exact h
  · intro h; exact ⟨s, h, rfl⟩
theorem swT_true {l m f s : List Prim} : (f, s, true) = swT l m ↔ swapL l m = some (f, s) := by
  unfold swT
  cases h : swapL l m with
  | none => simp
  | some r => obtain ⟨r1, r2⟩ := r; simp [eq_comm]
theorem swT_back {l m f s : List Prim} (h : (f, s, true) = swT l m) : (l, m, true) = swT f s :=
  swT_true.2 (swapL_grid.2 (grid_turn _ rfl (swapL_grid.1 (swT_true.1 h))))
theorem pas_right : ∀ {m : List Prim} {p q : Prim} {f : List Prim}, Pas p m f q → p.right = true → q.right = true ∧ f.all Prim.right = true
  | [], p, q, f, h, hp => by
    obtain ⟨rfl, rfl⟩ := pas_nil.1 h
    exact ⟨hp, rfl⟩
  | x :: m, p, q, f, h, hp => by
    obtain ⟨a, b, f', h1, h2, rfl⟩ := pas_cons.1 h
    obtain ⟨_, _, _, h3, h4⟩ := swap_true h1
    obtain ⟨h5, h6⟩ := pas_right h2 h4
    exact ⟨h5, by simp [h3, h6]⟩
theorem grid_right {l m f s : List Prim} (h : Grid l m f s) : l.all Prim.right = true → m.all Prim.right = true → f.all Prim.right = true ∧ s.all Prim.right = true := by
  induction h with
  | nil => exact fun _ h => ⟨h, rfl⟩
  | @row l p m n q f s hp hg ih =>
    intro hl hm
    rw [List.all_append, Bool.and_eq_true] at hl
    have hp1 : p.right = true := by simpa using hl.2
    obtain ⟨h1, h2⟩ := pas_right hp hp1
    obtain ⟨h3, h4⟩ := ih hl.1 h2
    exact ⟨h3, by rw [List.all_append, h4]; simp [h1]⟩
theorem grid_len {l m f s : List Prim} (h : Grid l m f s) : f.length = m.length ∧ s.length = l.length := by
  induction h with
  | nil => exact ⟨rfl, rfl⟩
  | @row l p m n q f s hp hg ih =>
    have hpl : ∀ {m : List Prim} {p q : Prim} {f : List Prim}, Pas p m f q → f.length = m.length := by
      intro m
      induction m with
      | nil => intro p q f h; obtain ⟨rfl, _⟩ := pas_nil.1 h; rfl
      | cons x m ih2 =>
        intro p q f h
        obtain ⟨a, b, f', h1, h2, rfl⟩ := pas_cons.1 h
        simp [ih2 h2]
    exact ⟨ih.1.trans (hpl hp), by simp [ih.2]⟩
theorem right_parts {p : Patch} (h : p.right = true) : (1 ≤ p.l.length ∧ p.l.length ≤ 24) ∧ p.l.all Prim.right = true := by
  unfold Patch.right at h
  simp only [Bool.and_eq_true, decide_eq_true_eq] at h
  exact ⟨⟨h.1.1.2, h.1.2⟩, h.2⟩
theorem right_with {p : Patch} {l : List Prim} (h : p.right = true) (hl : l.length = p.l.length) (hr : l.all Prim.right = true) : ({ p with l := l } : Patch).right = true := by
  unfold Patch.right at h ⊢
  simp only [Bool.and_eq_true, decide_eq_true_eq] at h ⊢
  refine ⟨⟨⟨h.1.1.1, ?_⟩, ?_⟩, hr⟩
  · rw [hl]; exact h.1.1.2
  · rw [hl]; exact h.1.2
theorem pswap_true {p q a b : Patch} (h : (a, b, true) = pswap p q) : ∃ f s, pmay p q = true ∧ (f, s, true) = swT p.l q.l ∧ a = { q with l := f } ∧ b = { p with l := s } := by
  unfold pswap at h
  split at h
  · rename_i hc
    simp only [Bool.and_eq_true] at hc
    simp only [Prod.mk.injEq, and_true] at h
    exact ⟨_, _, hc.1, by rw [← hc.2], h.1, h.2⟩
  · simp at h
theorem pswap_back {p q a b : Patch} (h : (a, b, true) = pswap p q) : (p, q, true) = pswap a b := by
  obtain ⟨f, s, hm, hs, rfl, rfl⟩ := pswap_true h
  have hg := swapL_grid.1 (swT_true.1 hs)
  have hl := grid_len hg
  unfold pmay at hm
  simp only [Bool.and_eq_true, Bool.not_eq_true'] at hm
  obtain ⟨⟨⟨⟨e1, e2⟩, e3⟩, e4⟩, e5⟩ := hm
  have hr := grid_right hg (right_parts e1).2 (right_parts e2).2
  have hb := swT_back hs
  unfold pswap
  have hmay : pmay { q with l := f } { p with l := s } = true := by
    unfold pmay
    rw [right_with e2 hl.1 hr.1, right_with e1 hl.2 hr.2]
    dsimp only
    rw [e4, e5, show decide (q.id = p.id) = false by rw [← e3]; exact decide_eq_decide.2 eq_comm]
    rfl
  rw [hmay]
  dsimp only
  rw [← hb]
  rfl
end Go.Proofs.YtdbiillompeclaaGreatDoor.X

end
section
set_option linter.unusedVariables false
set_option linter.unusedSimpArgs false
namespace Go.Proofs.YtdbiillompeclaaGreatDoor.X
open Go Go.RowKit Go.Proofs Go.Sx
/-! Rows of prims and trees: what Apply of a row makes, or that it does not fit. -/
def runE : List File → List Prim → List File × Int
  | T, [] => (T, 0)
  | T, p :: l => if (rApplyT T p).2 = 0 then runE (rApplyT T p).1 l else rApplyT T p
def rowT (T : List File) (l : List Prim) : List File × Int := if (runE T l).2 = 0 then runE T l else (T, (runE T l).2)
theorem runs_runE {l : List Prim} {U : List File} : ∀ {T : List File}, Runs T l U ↔ runE T l = (U, 0) := by
  induction l with
  | nil => intro T; show T = U ↔ (T, (0 : Int)) = (U, 0); simp
  | cons p l ih =>
    intro T
    show (∃ M, Ran T p M ∧ Runs M l U) ↔ _
    rw [runE]
    constructor
    · rintro ⟨M, h1, h2⟩
      unfold Ran at h1
      rw [h1, if_pos rfl]
      exact ih.1 h2
    · intro h
      split at h
      · rename_i h1
        exact ⟨(rApplyT T p).1, by unfold Ran; rw [← h1], ih.2 h⟩
      · rename_i h1
        rw [h] at h1; exact absurd rfl h1
theorem rowT_ok {T U : List File} {l : List Prim} (h : Runs T l U) : rowT T l = (U, 0) := by
  unfold rowT; rw [runs_runE.1 h, if_pos rfl]
theorem rowT_runs {T U : List File} {l : List Prim} (h : rowT T l = (U, 0)) : Runs T l U := by
  unfold rowT at h
  split at h
  · exact runs_runE.2 h
  · rename_i h1
    simp only [Prod.mk.injEq] at h
    exact absurd h.2 h1
theorem runE_app {l m : List Prim} {M : List File} : ∀ {T : List File}, Runs T l M → runE T (l ++ m) = runE M m := by
  induction l with
  | nil => intro T h; cases h; rfl
  | cons p l ih =>
    rintro T ⟨N, h1, h2⟩
    rw [List.cons_append, runE]
    unfold Ran at h1
    rw [h1, if_pos rfl]
    exact ih h2
theorem rowT_err {T M M' : List File} {l : List Prim} {k : Nat} {e : Int} (h : Runs T (l.take k) M) (hk : k < l.length) (he : (M', e) = rApplyT M l[k]) (hne : ¬ e = 0) : rowT T l = (T, e) := by
  have h1 : runE T l = (M', e) := by
    conv => lhs; rw [← List.take_append_drop k l]
    rw [runE_app h, List.drop_eq_getElem_cons hk, runE, ← he, if_neg hne]
  unfold rowT; rw [h1, if_neg hne]
theorem rowT_no {T U : List File} {l : List Prim} {e : Int} (h : (U, e) = rowT T l) (he : ¬ e = 0) : U = T := by
  unfold rowT at h
  split at h
  · rename_i h1
    have : e = 0 := by have := congrArg Prod.snd h; dsimp only at this; rw [this]; exact h1
    exact absurd this he
  · exact congrArg Prod.fst h
theorem runs_take {T M M' : List File} {l : List Prim} {k : Nat} (h : Runs T (l.take k) M) (hk : k < l.length) (he : (M', (0 : Int)) = rApplyT M l[k]) : Runs T (l.take (k + 1)) M' := by
  rw [List.take_succ_eq_append_getElem hk, runs_app]
  exact ⟨M, h, M', he.symm, rfl⟩
theorem runs_all {T M : List File} {l : List Prim} {k : Nat} (h : Runs T (l.take k) M) (hk : l.length ≤ k) : Runs T l M := by
  rwa [List.take_of_length_le hk] at h
theorem runs_applied {l : List Prim} {U : List File} : ∀ {T : List File}, Runs T l U → U = appliedT T l := by
  induction l with
  | nil => intro T h; exact h.symm
  | cons p l ih =>
    rintro T ⟨M, h1, h2⟩
    rw [ih h2]
    unfold Ran at h1
    show _ = appliedT (rApplyT T p).1 l
    rw [h1]
theorem runs_inv {T U : List File} {l : List Prim} {m n : Nat} (h : Runs T l U) (hi : AppInv m n T) : AppInv (m + news l) (n + l.length) U := by
  rw [runs_applied h]; exact hi.applied l
theorem news_inv (l : List Prim) : news (invL l) ≤ many l := by
  induction l with
  | nil => simp [invL, news]
  | cons p l ih =>
    rw [invL_cons]
    have h1 : news (invL l ++ [p.flip]) = news (invL l) + p.flip.new.length := by unfold news; simp
    have h2 := flip_new p
    have h3 : p.old.length + p.new.length ≤ p.many := by unfold Prim.many; omega
    have h4 : many (p :: l) = 1 + p.many + many l := by unfold many; simp; omega
    omega
theorem take_many (l : List Prim) (k : Nat) : many (l.take k) ≤ many l := by
  have h : many l = many (l.take k) + many (l.drop k) := by
    unfold many
    have h1 : (l.map Prim.many).sum = ((l.take k).map Prim.many).sum + ((l.drop k).map Prim.many).sum := by
      rw [← List.sum_append, ← List.map_append, List.take_append_drop]
    have h2 : l.length = (l.take k).length + (l.drop k).length := by rw [← List.length_append, List.take_append_drop]
    omega
  omega
structure Undo (T : List File) (l : List Prim) (k j : Nat) (M N : List File) : Prop where
  done : Runs M ((invL (l.take k)).take j) N
  left : Runs N ((invL (l.take k)).drop j) T
theorem Undo.start {T M : List File} {l : List Prim} {k : Nat} (hS : Sor T) (hG : Go.Sx.Good T) (h : Runs T (l.take k) M) : Undo T l k 0 M M := ⟨rfl, runs_back hS hG h⟩
theorem Undo.step {T M N : List File} {l : List Prim} {k j : Nat} (h : Undo T l k j M N) (hj : j < (invL (l.take k)).length) : Undo T l k (j + 1) M (rApplyT N (invL (l.take k))[j]).1 := by
  have h2 := h.left
  rw [List.drop_eq_getElem_cons hj] at h2
  obtain ⟨K, h3, h4⟩ := h2
  have e : (rApplyT N (invL (l.take k))[j]).1 = K := by unfold Ran at h3; rw [h3]
  rw [e]
  refine ⟨?_, h4⟩
  rw [List.take_succ_eq_append_getElem hj, runs_app]
  exact ⟨N, h.done, K, h3, rfl⟩
theorem Undo.stop {T M N : List File} {l : List Prim} {k j : Nat} (h : Undo T l k j M N) (hj : (invL (l.take k)).length ≤ j) : N = T := by
  have := h.left
  rw [List.drop_eq_nil_of_le hj] at this
  exact this
theorem swT_false {l m f s : List Prim} (h : (f, s, false) = swT l m) : swapL l m = none ∧ f = [] ∧ s = [] := by
  unfold swT at h
  cases hh : swapL l m with
  | none => rw [hh] at h; simp at h; exact ⟨rfl, h.1, h.2⟩
  | some r => rw [hh] at h; simp at h
theorem swT_some {l m f s : List Prim} (h : swapL l m = some (f, s)) : swT l m = (f, s, true) := by unfold swT; rw [h]
theorem runs_swT {l m f s : List Prim} {T U : List File} (hS : Sor T) (h : Runs T (l ++ m) U) (e : (f, s, true) = swT l m) : Runs T (f ++ s) U := runs_swapL hS h (swT_true.1 e)
theorem pas_inv : ∀ {m : List Prim} {p q : Prim} {f : List Prim}, Pas p m f q → Grid (invL m) [p.flip] [q.flip] (invL f)
  | [], p, q, f, h => by
    obtain ⟨rfl, rfl⟩ := pas_nil.1 h
    exact Grid.nil
  | x :: m, p, q, f, h => by
    obtain ⟨a, b, f', h1, h2, rfl⟩ := pas_cons.1 h
    rw [invL_cons, invL_cons]
    refine Grid.row (n := [b.flip]) (q := a.flip) ?_ (pas_inv h2)
    exact pas_cons.2 ⟨b.flip, a.flip, [], swap_inv h1, pas_nil.2 ⟨rfl, rfl⟩, rfl⟩
theorem grid_join : ∀ {l : List Prim} {m1 m2 f1 f2 s t : List Prim}, Grid l m1 f1 s → Grid s m2 f2 t → Grid l (m1 ++ m2) (f1 ++ f2) t := by
  intro l m1 m2 f1 f2 s t h1
  induction h1 generalizing m2 f2 t with
  | nil =>
    intro h2
    have : ∀ {L m f s : List Prim}, Grid L m f s → L = [] → f = m ∧ s = [] := by
      intro L m f s h
      cases h with
      | nil => intro _; exact ⟨rfl, rfl⟩
      | row a b => intro e; simp at e
    obtain ⟨rfl, rfl⟩ := this h2 rfl
    exact Grid.nil
  | @row l p m n q f s hp hg ih =>
    intro h2
    generalize hL : s ++ [q] = L at h2
    cases h2 with
    | nil => simp at hL
    | @row l' p' m' n' q' f' s' hp' hg' =>
      obtain ⟨rfl, e⟩ := List.append_inj' hL rfl
      obtain rfl : q = p' := by simpa using e
      exact Grid.row (pas_app.2 ⟨_, _, _, hp, hp', rfl⟩) (ih hg')
theorem invL_app (l m : List Prim) : invL (l ++ m) = invL m ++ invL l := by simp [invL]
theorem grid_nilr : ∀ (l : List Prim), Grid l [] [] l := by
  intro l
  have : ∀ (r : List Prim), Grid r.reverse [] [] r.reverse := by
    intro r
    induction r with
    | nil => exact Grid.nil
    | cons x r ih => rw [List.reverse_cons]; exact Grid.row (pas_nil.2 ⟨rfl, rfl⟩) ih
  simpa using this l.reverse
theorem grid_inv {l m f s : List Prim} (h : Grid l m f s) : Grid (invL m) (invL l) (invL s) (invL f) := by
  induction h with
  | nil => exact grid_nilr _
  | @row l p m n q f s hp hg ih =>
    rw [invL_app, invL_app]
    exact grid_join (pas_inv hp) ih
theorem invL_invL (l : List Prim) : invL (invL l) = l := by
  unfold invL
  rw [← List.map_reverse, List.reverse_reverse, List.map_map]
  conv => rhs; rw [← List.map_id l]
  exact List.map_congr_left fun p _ => flip_flip p
theorem reb_turn {l m r : List Prim} (h : reb l m = some r) : ∃ s, swapL (invL l) m = some (r, s) ∧ reb m l = some (invL s) := by
  unfold reb at h ⊢
  rw [Option.map_eq_some_iff] at h
  obtain ⟨⟨f, s⟩, h1, rfl⟩ := h
  refine ⟨s, h1, ?_⟩
  have := swapL_grid.2 (grid_inv (swapL_grid.1 h1))
  rw [invL_invL] at this
  rw [this]; rfl
theorem rebT_turn {l m r r' : List Prim} {b b' : Bool} (h : (r, b) = rebT l m) (h' : (r', b') = rebT m l) : b = b' := by
  have key : ∀ {l m r r' : List Prim}, (r, true) = rebT l m → (r', false) = rebT m l → False := by
    intro l m r r' h h'
    obtain ⟨s, _, h2⟩ := reb_turn (rebT_true h)
    rw [(rebT_false h').1] at h2; cases h2
  cases b <;> cases b'
  · rfl
  · exact (key h' h).elim
  · exact (key h h').elim
  · rfl
theorem rebT_merge {l m a b : List Prim} {T U V : List File} (hS : Sor T) (hG : Go.Sx.Good T) (h : (a, true) = rebT l m) (h' : (b, true) = rebT m l) (hl : Runs T l U) (hm : Runs T m V) : ∃ X, Runs U a X ∧ Runs V b X := by
  obtain ⟨s, h1, h2⟩ := reb_turn (rebT_true h)
  obtain rfl : b = invL s := by have := rebT_true h'; rw [h2] at this; exact (Option.some.inj this).symm
  have hb := runs_back hS hG hl
  have h3 := runs_swapL (runs_sor hl hS) (runs_app.2 ⟨T, hb, hm⟩) h1
  obtain ⟨X, h4, h5⟩ := runs_app.1 h3
  exact ⟨X, h4, runs_back (runs_sor h4 (runs_sor hl hS)) (runs_good h4 (runs_good hl hG)) h5⟩
/-! what is brought ahead -/
def splK (W : Nat → Bool) (l : List Prim) : Nat → List Prim × List Prim
  | 0 => ([], [])
  | k + 1 => match l[k]? with
    | none => splK W l k
    | some p => if W k && (swT (splK W l k).2 [p]).2.2 then ((splK W l k).1 ++ (swT (splK W l k).2 [p]).1, (swT (splK W l k).2 [p]).2.1) else ((splK W l k).1, (splK W l k).2 ++ [p])
theorem splK_yes {W : Nat → Bool} {l f r a b : List Prim} {k : Nat} (h : (f, r) = splK W l k) (hk : k < l.length) (hw : W k = true) (hs : (a, b, true) = swT r [l[k]]) : (f ++ a, b) = splK W l (k + 1) := by
  rw [splK, List.getElem?_eq_getElem hk]
  dsimp only
  rw [← h]
  dsimp only
  rw [← hs, hw]
  rfl
theorem splK_no {W : Nat → Bool} {l f r a b : List Prim} {k : Nat} {z : Bool} (h : (f, r) = splK W l k) (hk : k < l.length) (hs : (a, b, z) = swT r [l[k]]) (hz : (W k && z) = false) : (f, r ++ [l[k]]) = splK W l (k + 1) := by
  rw [splK, List.getElem?_eq_getElem hk]
  dsimp only
  rw [← h]
  dsimp only
  rw [← hs]
  dsimp only
  rw [hz]
  rfl
theorem splK_no' {W : Nat → Bool} {l f r : List Prim} {k : Nat} (h : (f, r) = splK W l k) (hk : k < l.length) (hw : W k = false) : (f, r ++ [l[k]]) = splK W l (k + 1) := by
  rw [splK, List.getElem?_eq_getElem hk]
  dsimp only
  rw [← h, hw]
  rfl
theorem swT_len {l m f s : List Prim} (h : (f, s, true) = swT l m) : f.length = m.length ∧ s.length = l.length := grid_len (swapL_grid.1 (swT_true.1 h))
theorem swT_fit {l m f s : List Prim} {b : Bool} (h : (f, s, b) = swT l m) (hl : ∀ x ∈ l, x.fit) (hm : ∀ x ∈ m, x.fit) : (∀ x ∈ f, x.fit) ∧ ∀ x ∈ s, x.fit := by
  cases b with
  | false => obtain ⟨_, rfl, rfl⟩ := swT_false h; simp
  | true => exact (swT_ok h hl hm).2.2
theorem splK_len (W : Nat → Bool) (l : List Prim) : ∀ (k : Nat), k ≤ l.length → (splK W l k).1.length + (splK W l k).2.length = k := by
  intro k
  induction k with
  | zero => intro _; rfl
  | succ k ih =>
    intro hk
    have ih := ih (by omega)
    rw [splK, List.getElem?_eq_getElem (by omega)]
    dsimp only
    split
    · rename_i h1
      simp only [Bool.and_eq_true] at h1
      have := swT_len (l := (splK W l k).2) (m := [l[k]]) (f := (swT (splK W l k).2 [l[k]]).1) (s := (swT (splK W l k).2 [l[k]]).2.1) (by rw [← h1.2])
      dsimp only
      rw [List.length_append, this.1, this.2]
      simp only [List.length_cons, List.length_nil]; omega
    · dsimp only; rw [List.length_append]; simp only [List.length_cons, List.length_nil]; omega
theorem splK_runs (W : Nat → Bool) (l : List Prim) {T : List File} (hS : Sor T) : ∀ (k : Nat) {U : List File}, k ≤ l.length → Runs T (l.take k) U → Runs T ((splK W l k).1 ++ (splK W l k).2) U := by
  intro k
  induction k with
  | zero => intro U _ h; exact h
  | succ k ih =>
    intro U hk h
    rw [List.take_succ_eq_append_getElem (by omega), runs_app] at h
    obtain ⟨M, h1, h2⟩ := h
    have ih := ih (by omega) h1
    rw [runs_app] at ih
    obtain ⟨N, h3, h4⟩ := ih
    have h5 : Runs N ((splK W l k).2 ++ [l[k]]) U := runs_app.2 ⟨M, h4, h2⟩
    rw [splK, List.getElem?_eq_getElem (by omega)]
    dsimp only
    split
    · rename_i hc
      simp only [Bool.and_eq_true] at hc
      have h6 := runs_swT (runs_sor h3 hS) h5 (f := (swT (splK W l k).2 [l[k]]).1) (s := (swT (splK W l k).2 [l[k]]).2.1) (by rw [← hc.2])
      dsimp only
      rw [List.append_assoc, runs_app]
      exact ⟨N, h3, h6⟩
    · dsimp only
      rw [runs_app]
      exact ⟨N, h3, h5⟩
end Go.Proofs.YtdbiillompeclaaGreatDoor.X

end
section
set_option linter.unusedVariables false
set_option linter.unusedSimpArgs false
namespace Go.Sx
open Go Go.RowKit
section
variable {ro : Option Nat} {P : Program} {M0 F0 : Nat → Prop} {w0 : World} {n : Nm} {σ : List (Nat × Value)} {Ξ : List Xsn} {Γ : List Asn}
theorem nilC {α : Type} [Rp α] {a : Act} {w : World} (h : St M0 F0 w0 n σ Ξ Γ a w) : St M0 F0 w0 n σ Ξ (slA (α := α) none [] :: nilA (none, 0) :: capA 0 0 :: Γ) a w := by
  obtain ⟨hs, Fs, hh⟩ := nilSl (α := α) h
  refine ⟨hs, Fs, { hh with ga := fun p hp => ?_ }⟩
  rcases List.mem_cons.1 hp with rfl | hp
  · exact hh.ga _ (by simp)
  · rcases List.mem_cons.1 hp with rfl | hp
    · exact fun _ => rfl
    · rcases List.mem_cons.1 hp with rfl | hp
      · exact Nat.le_refl 0
      · exact hh.ga p (by simp [hp])
end
theorem con_fz {P : Program} {f : FuncId} {args : List Value} {Ξi : List Xsn} {Γi : List Asn} {X : Type} {rv : X → Value} {α : Type} [Rp α] {e : TypeId} {A : X → Option Addr} {c : X → Nat} {l : X → List α} {Γo : X → List Asn}
    (h : Con P f args Ξi Γi X rv (fun x => [row e (A x) (c x) (l x)]) Γo) : Con P f args Ξi Γi X rv (fun _ => []) (fun x => slA (A x) (l x) :: nilA (A x, c x) :: capA (c x) (l x).length :: Γo x) := by
  intro M0 Fs w hh
  refine (h M0 Fs w hh).mono ?_
  rintro en w' ⟨x, Fs', rfl, hout⟩
  have hsl : Slots ⟨0, []⟩ [] { tmps := #[], defers := [] } := ⟨rfl, rfl, fun t v h => by cases h⟩
  obtain ⟨_, Fs'', h1⟩ := freezeN (i := 0) rfl (⟨hsl, Fs', hout⟩ : St M0 (own Fs) w ⟨0, []⟩ [] [row e (A x) (c x) (l x)] (Γo x) { tmps := #[], defers := [] } w')
  exact ⟨x, Fs'', rfl, h1⟩
theorem borrow2 {P : Program} {f : FuncId} {args : List Value} {α : Type} [Rp α] {e : TypeId} {A : Option Addr} {c : Nat} {l : List α} {Γi : List Asn} {X : Type} {rv : X → Value} {Ξo : X → List Xsn} {Γo : X → List Asn} (keep : X → Bool)
    (h : Con P f args [] (slA A l :: Γi) X rv Ξo Γo) :
    Con P f args [row e A c l] Γi X rv (fun x => bif keep x then [row e A c l] else Ξo x) (fun x => bif keep x then [] else Γo x) := by
  intro M0 Fs w hh
  obtain ⟨F, rfl, hrow⟩ := hh.one_of
  have ho : ∀ b, own [F] b ↔ F b := fun b => by simp [own]
  have hsl : Slots ⟨0, []⟩ [] { tmps := #[], defers := [] } := ⟨rfl, rfl, fun t v h => by cases h⟩
  obtain ⟨_, Fs', h1⟩ := Go.Sx.freeze (i := 0) rfl (⟨hsl, [F], hh⟩ : St M0 (own [F]) w ⟨0, []⟩ [] [row e A c l] Γi { tmps := #[], defers := [] } w)
  have hnil : Fs' = [] := by
    cases Fs' with
    | nil => rfl
    | cons G Gs => exact h1.ex.elim
  subst hnil
  have hin : Hp M0 (own []) w [] (slA A l :: Γi) [] w := ⟨trivial, .nil, fun b hb => absurd hb (own_nil b), fun b hb => absurd hb (own_nil b), fun b hb => absurd hb (own_nil b), h1.ga, Upd.refl _ _, h1.m0, fun b hb => absurd hb (own_nil b)⟩
  refine (h M0 [] w hin).mono ?_
  rintro en w' ⟨x, Gs, rfl, hout⟩
  have hnew : ∀ b, own Gs b → ¬ b < w.heap.size := fun b hb hl => own_nil b (hout.old b hb hl)
  have hblk : ∀ b, b < w.heap.size → w'.heap[b]? = w.heap[b]? := fun b hb => hout.up.block b hb (own_nil b)
  cases hkx : keep x with
  | false =>
    refine ⟨x, Gs, rfl, ?_⟩
    dsimp only
    rw [hkx]
    refine ⟨hout.ex, hout.dis, hout.dis0, hout.lt, fun b hb hl => absurd hl (hnew b hb), hout.ga, ⟨hout.up.os, hout.up.tape, hout.up.output, hout.up.size, fun b hb _ => hblk b hb⟩, hh.m0, hh.f0⟩
  | true =>
    refine ⟨x, [F], rfl, ?_⟩
    dsimp only
    rw [hkx]
    refine ⟨⟨?_, trivial⟩, hh.dis, hh.dis0, fun b hb => Nat.lt_of_lt_of_le (hh.lt b hb) hout.up.size, fun b hb _ => hb, (fun p hp => by cases hp), ⟨hout.up.os, hout.up.tape, hout.up.output, hout.up.size, fun b hb _ => hblk b hb⟩, hh.m0, hh.f0⟩
    exact (row e A c l).st _ _ _ _ _ hrow (fun b hb _ => hblk b hb) (fun b hb hM => hM) hout.up.size
end Go.Sx
namespace Go.Proofs.YtdbiillompeclaaGreatDoor.X
open Go Go.RowKit Go.Proofs Go.Sx
theorem inv_mono {m n m' n' : Nat} {T : List File} (h : AppInv m n T) (h1 : m ≤ m') (h2 : n ≤ n') : AppInv m' n' T := ⟨h.so, h.good, h.lmax.mono h1, Nat.le_trans h.len h2⟩
theorem many_in {l : List Prim} {p : Prim} (h : p ∈ l) : p.many ≤ many l := by
  unfold many
  have : p.many ≤ (l.map Prim.many).sum := by
    induction l with
    | nil => cases h
    | cons q l ih =>
      simp only [List.map_cons, List.sum_cons]
      rcases List.mem_cons.1 h with rfl | h
      · omega
      · have := ih h; omega
  omega
theorem news_in {l : List Prim} {p : Prim} (h : p ∈ l) : p.new.length ≤ news l := by
  unfold news
  induction l with
  | nil => cases h
  | cons q l ih =>
    simp only [List.map_cons, List.sum_cons]
    rcases List.mem_cons.1 h with rfl | h
    · omega
    · have := ih h; omega
def lnP (p : Prim) : Nat := p.old.length + p.new.length
def lns (l : List Prim) : Nat := (l.map lnP).sum
theorem lns_many (l : List Prim) : lns l ≤ many l := by
  unfold lns many
  have : (l.map lnP).sum ≤ (l.map Prim.many).sum := by
    induction l with
    | nil => simp
    | cons p l ih =>
      simp only [List.map_cons, List.sum_cons]
      have : lnP p ≤ p.many := by unfold lnP Prim.many; omega
      omega
  omega
theorem lns_cons (p : Prim) (l : List Prim) : lns (p :: l) = lnP p + lns l := by simp [lns]
theorem lns_app (l m : List Prim) : lns (l ++ m) = lns l + lns m := by simp [lns]
theorem lns_inv (l : List Prim) : lns (invL l) = lns l := by
  induction l with
  | nil => rfl
  | cons p l ih =>
    rw [invL_cons, lns_app, ih, lns_cons, lns_cons]
    have h1 : lnP p.flip = lnP p := by
      unfold lnP Prim.flip
      repeat' split
      all_goals simp
      all_goals omega
    have h2 : lns [] = 0 := rfl
    omega
theorem news_lns (l : List Prim) : news l ≤ lns l := by
  unfold news lns
  induction l with
  | nil => simp
  | cons p l ih =>
    simp only [List.map_cons, List.sum_cons]
    have : p.new.length ≤ lnP p := by unfold lnP; omega
    omega
theorem take_lns (l : List Prim) (k : Nat) : lns (l.take k) ≤ lns l := by
  have h : lns l = lns (l.take k) + lns (l.drop k) := by rw [← lns_app, List.take_append_drop]
  omega
theorem pas_lns : ∀ {m : List Prim} {p q : Prim} {f : List Prim}, Pas p m f q → lns f = lns m ∧ lnP q = lnP p
  | [], p, q, f, h => by
    obtain ⟨rfl, rfl⟩ := pas_nil.1 h
    exact ⟨rfl, rfl⟩
  | x :: m, p, q, f, h => by
    obtain ⟨a, b, f', h1, h2, rfl⟩ := pas_cons.1 h
    obtain ⟨h3, h4⟩ := pas_lns h2
    obtain ⟨⟨_, k1, k2, _⟩, ⟨_, k3, k4, _⟩⟩ := swap_keeps h1
    rw [lns_cons, lns_cons, h3, h4]
    unfold lnP
    omega
theorem grid_lns {l m f s : List Prim} (h : Grid l m f s) : lns f = lns m ∧ lns s = lns l := by
  induction h with
  | nil => exact ⟨rfl, rfl⟩
  | row hp hg ih =>
    obtain ⟨h1, h2⟩ := pas_lns hp
    rw [lns_app, lns_app, ih.1, ih.2, h1, lns_cons, lns_cons, h2]
    exact ⟨rfl, rfl⟩
theorem swT_lns {l m f s : List Prim} (h : (f, s, true) = swT l m) : lns f = lns m ∧ lns s = lns l := grid_lns (swapL_grid.1 (swT_true.1 h))
theorem swT_le {l m f s : List Prim} {b : Bool} (h : (f, s, b) = swT l m) : f.length ≤ m.length ∧ s.length ≤ l.length := by
  cases b with
  | false => obtain ⟨_, rfl, rfl⟩ := swT_false h; simp
  | true => have := swT_len h; omega
theorem rebT_lns {l m f : List Prim} (h : (f, true) = rebT l m) : lns f = lns m ∧ f.length = m.length := by
  obtain ⟨s, h1, _⟩ := reb_turn (rebT_true h)
  exact ⟨(grid_lns (swapL_grid.1 h1)).1, (grid_len (swapL_grid.1 h1)).1⟩
theorem rebT_fit {l m f : List Prim} {b : Bool} (h : (f, b) = rebT l m) (hl : ∀ x ∈ l, x.fit) (hm : ∀ x ∈ m, x.fit) : (∀ x ∈ f, x.fit) ∧ f.length ≤ m.length := by
  cases b with
  | false => obtain ⟨_, rfl⟩ := rebT_false h; simp
  | true => have := reb_ok (rebT_true h) hl hm; exact ⟨this.2, by omega⟩
structure Bnd (M : List File) (p : Prim) : Prop where
  so : Sor M
  good : Go.Sx.Good M
  fit : ∀ x ∈ M, x.2.length ≤ 2000000
  b : ∀ u, (getL M u).length + p.new.length ≤ 2000000
  len : M.length ≤ 2000000
theorem run_b {m n k : Nat} {T M : List File} {l : List Prim} (hi : AppInv m n T) (hm : m + 2 * lns l ≤ 1900000) (hn : n + 2 * l.length ≤ 1900000) (h : Runs T (l.take k) M) (hk : k < l.length) : Bnd M l[k] := by
  have h1 := runs_inv h hi
  have h2 : news (l.take k) ≤ lns l := Nat.le_trans (news_lns _) (take_lns l k)
  have h3 : l[k].new.length ≤ lns l := Nat.le_trans (news_in (List.getElem_mem hk)) (news_lns l)
  have h4 : (l.take k).length ≤ l.length := by rw [List.length_take]; omega
  exact ⟨h1.so, h1.good, fun x hx => by have := h1.lmax x hx; omega, fun u => by have := h1.lmax.get u; omega, by have := h1.len; omega⟩
theorem undo_b {m n k j : Nat} {T M N : List File} {l : List Prim} (hi : AppInv m n T) (hm : m + 2 * lns l ≤ 1900000) (hn : n + 2 * l.length ≤ 1900000) (h : Runs T (l.take k) M) (hu : Undo T l k j M N) (hj : j < (invL (l.take k)).length) : Bnd N (invL (l.take k))[j] := by
  have h1 := runs_inv hu.done (runs_inv h hi)
  have h2 : news (l.take k) ≤ lns (l.take k) := news_lns (l.take k)
  have h3 : news (invL (l.take k)) ≤ lns (l.take k) := by have := news_lns (invL (l.take k)); rwa [lns_inv] at this
  have h4 : (l.take k).length ≤ l.length := by rw [List.length_take]; omega
  have h5 := news_take (invL (l.take k)) j
  have h6 : news ((invL (l.take k)).take (j + 1)) = news ((invL (l.take k)).take j) + (invL (l.take k))[j].new.length := sum_take_succ (f := fun p : Prim => p.new.length) hj
  have h9 := news_take (invL (l.take k)) (j + 1)
  have h7 : ((invL (l.take k)).take j).length ≤ l.length := by rw [List.length_take, invL_len]; omega
  have h8 := take_lns l k
  exact ⟨h1.so, h1.good, fun x hx => by have := h1.lmax x hx; omega, fun u => by have := h1.lmax.get u; omega, by have := h1.len; omega⟩
theorem rowT_inv {m n : Nat} {T U : List File} {l : List Prim} {e : Int} (hi : AppInv m n T) (h : (U, e) = rowT T l) : AppInv (m + lns l) (n + l.length) U := by
  by_cases he : e = 0
  · subst he
    exact inv_mono (runs_inv (rowT_runs h.symm) hi) (by have := news_lns l; omega) (Nat.le_refl _)
  · rw [rowT_no h he]
    exact inv_mono hi (by omega) (by omega)
theorem inv_fit {m n : Nat} {T : List File} (h : AppInv m n T) (hm : m ≤ 2000000) : ∀ x ∈ T, x.2.length ≤ 2000000 := fun x hx => by have := h.lmax x hx; omega
end Go.Proofs.YtdbiillompeclaaGreatDoor.X

end
section
set_option linter.unusedVariables false
set_option linter.unusedSimpArgs false
namespace Go.Proofs.YtdbiillompeclaaGreatDoor.X
open Go Go.RowKit Go.Proofs Go.Sx
/-! The hunks that make one row of another one. -/
def hunkP (nm : ByteArray) (a b : List ByteArray) (p q : Nat × Nat) : Prim := ⟨0, nm, e0, (p.2 : Int), (a.drop p.1).take (q.1 - p.1), (b.drop p.2).take (q.2 - p.2)⟩
def hk (nm : ByteArray) (a b : List ByteArray) (p q : Nat × Nat) : List Prim := if p.1 < q.1 ∨ p.2 < q.2 then [hunkP nm a b p q] else []
def linS (nm : ByteArray) (a b : List ByteArray) (s : List Prim × (Nat × Nat)) (q : Nat × Nat) : List Prim × (Nat × Nat) := (s.1 ++ hk nm a b s.2 q, (q.1 + 1, q.2 + 1))
def linF (nm : ByteArray) (a b : List ByteArray) (l : List (Nat × Nat)) : List Prim × (Nat × Nat) := l.foldl (linS nm a b) ([], (0, 0))
theorem linF_snoc (nm : ByteArray) (a b : List ByteArray) (l : List (Nat × Nat)) (q : Nat × Nat) : linF nm a b (l ++ [q]) = ((linF nm a b l).1 ++ hk nm a b (linF nm a b l).2 q, (q.1 + 1, q.2 + 1)) := by
  unfold linF; rw [List.foldl_append]; rfl
theorem linF_take {nm : ByteArray} {a b : List ByteArray} {l : List (Nat × Nat)} {j : Nat} (hj : j < l.length) : linF nm a b (l.take (j + 1)) = ((linF nm a b (l.take j)).1 ++ hk nm a b (linF nm a b (l.take j)).2 l[j], (l[j].1 + 1, l[j].2 + 1)) := by
  rw [List.take_succ_eq_append_getElem hj, linF_snoc]
def linAll (nm : ByteArray) (a b : List ByteArray) (l : List (Nat × Nat)) : List Prim := (linF nm a b (l ++ [(a.length, b.length)])).1
theorem Chain.lin {a b : List ByteArray} {l : List (Nat × Nat)} {i k : Nat} (nm : ByteArray) (h : Chain a b l i k) : (linF nm a b l).2 = (i, k) := by
  cases h with
  | nil => rfl
  | snoc h0 hp hn => rw [linF_snoc]
structure HunkOk (a b : List ByteArray) (i k x y : Nat) : Prop where
  ix : i ≤ x
  ky : k ≤ y
  xl : x ≤ a.length
  yl : y ≤ b.length
  ne : (i < x ∨ k < y) → (a.drop i).take (x - i) ≠ (b.drop k).take (y - k)
theorem take_head {a b : List ByteArray} {i k x y : Nat} (hx : x ≤ a.length) (hy : y ≤ b.length) (h : (i < x ∨ k < y)) (hix : i ≤ x) (hky : k ≤ y) (e : (a.drop i).take (x - i) = (b.drop k).take (y - k)) : ∃ (h1 : i < a.length) (h2 : k < b.length), i < x ∧ k < y ∧ a[i] = b[k] := by
  have hl := congrArg List.length e
  rw [List.length_take, List.length_take, List.length_drop, List.length_drop] at hl
  have h1 : i < x := by omega
  have h2 : k < y := by omega
  have ha : i < a.length := by omega
  have hb : k < b.length := by omega
  refine ⟨ha, hb, h1, h2, ?_⟩
  rw [List.drop_eq_getElem_cons ha, List.drop_eq_getElem_cons hb, show x - i = (x - i - 1) + 1 by omega, show y - k = (y - k - 1) + 1 by omega, List.take_succ_cons, List.take_succ_cons] at e
  injection e
theorem next_hunk {a b : List ByteArray} {i k x y : Nat} (h : NextP a b i k x y) : HunkOk a b i k x y := by
  have c := h.1
  refine ⟨c.ix, c.ky, Nat.le_of_lt c.xl, Nat.le_of_lt c.yl, fun ho e => ?_⟩
  obtain ⟨h1, h2, h3, h4, h5⟩ := take_head (Nat.le_of_lt c.xl) (Nat.le_of_lt c.yl) ho c.ix c.ky e
  rcases h.2 i k ⟨Nat.le_refl _, Nat.le_refl _, h1, h2, h5, rfl⟩ with h6 | ⟨h6, _⟩ <;> omega
theorem end_hunk {a b : List ByteArray} {i k : Nat} (hi : i ≤ a.length) (hk : k ≤ b.length) (h : cmn a b i k = 0) : HunkOk a b i k a.length b.length := by
  refine ⟨hi, hk, Nat.le_refl _, Nat.le_refl _, fun ho e => ?_⟩
  obtain ⟨h1, h2, h3, h4, h5⟩ := take_head (Nat.le_refl _) (Nat.le_refl _) ho hi hk e
  rw [cmn_eq h1 h2 h5] at h; omega
theorem all_part {f : ByteArray → Bool} {a : List ByteArray} (h : a.all f = true) (i n : Nat) : ((a.drop i).take n).all f = true := by
  rw [List.all_eq_true] at h ⊢
  exact fun x hx => h x (List.mem_of_mem_drop (List.mem_of_mem_take hx))
theorem HunkOk.right {nm : ByteArray} {a b : List ByteArray} {i k x y : Nat} (h : HunkOk a b i k x y) (ho : i < x ∨ k < y) (hn : nameOk nm = true) (ha : a.all lineOk = true) (hb : b.all lineOk = true) (hf : b.length ≤ 1048576) : (hunkP nm a b (i, k) (x, y)).right = true := by
  have h1 := h.ne ho
  have h2 := h.ky; have h3 := h.yl
  unfold Prim.right hunkP
  dsimp only
  rw [if_pos rfl, hn, all_part ha, all_part hb, decide_eq_true (show (0 : Int) ≤ (k : Int) by omega), decide_eq_true (show (k : Int) ≤ 1048576 by omega), decide_eq_false h1]
  rfl
theorem hk_ran {nm : ByteArray} {a b : List ByteArray} {i k x y : Nat} {T : List File} (h : HunkOk a b i k x y) (hS : Sor T) (hg : getT T nm = some (b.take k ++ a.drop i)) (hn : nameOk nm = true) (ha : a.all lineOk = true) (hb : b.all lineOk = true) (hf : b.length ≤ 1048576) :
    ∃ U, Runs T (hk nm a b (i, k) (x, y)) U ∧ getT U = upd (getT T) nm (some (b.take y ++ a.drop x)) := by
  have h1 := h.ix; have h2 := h.ky; have h3 := h.xl; have h4 := h.yl
  unfold hk
  dsimp only
  split
  · rename_i ho
    have hr := h.right ho hn ha hb hf
    have e1 : a.drop i = (a.drop i).take (x - i) ++ a.drop x := by
      conv => lhs; rw [← List.take_append_drop (x - i) (a.drop i)]
      rw [List.drop_drop, show i + (x - i) = x by omega]
    have e2 : b.take y = b.take k ++ (b.drop k).take (y - k) := by
      conv => lhs; rw [show y = k + (y - k) by omega, List.take_add]
    have hs : Step (getT T) (hunkP nm a b (i, k) (x, y)) (upd (getT T) nm (some (b.take y ++ a.drop x))) := by
      refine (step0 rfl).2 ⟨b.take k, a.drop x, ?_, ?_, ?_⟩
      · show getT T nm = some (b.take k ++ (a.drop i).take (x - i) ++ a.drop x)
        rw [hg, List.append_assoc, ← e1]
      · rw [List.length_take]; show ((min k b.length : Nat) : Int) = ((k : Nat) : Int); omega
      · show upd (getT T) nm (some (b.take y ++ a.drop x)) = upd (getT T) nm (some (b.take k ++ (b.drop k).take (y - k) ++ a.drop x))
        rw [← e2]
    obtain ⟨U, hU, hg'⟩ := step_ran hS hr hs
    exact ⟨U, ⟨U, hU, rfl⟩, hg'⟩
  · rename_i ho
    obtain rfl : i = x := by omega
    obtain rfl : k = y := by omega
    refine ⟨T, rfl, ?_⟩
    funext z
    unfold upd
    split
    · rename_i e; rw [e, hg]
    · rfl
theorem chain_runs {nm : ByteArray} {a b : List ByteArray} {l : List (Nat × Nat)} {i k : Nat} {T : List File} (h : Chain a b l i k) (hS : Sor T) (hg : getT T nm = some a) (hn : nameOk nm = true) (ha : a.all lineOk = true) (hb : b.all lineOk = true) (hf : b.length ≤ 1048576) :
    ∃ U, Runs T (linF nm a b l).1 U ∧ getT U = upd (getT T) nm (some (b.take k ++ a.drop i)) := by
  induction h with
  | nil =>
    refine ⟨T, rfl, ?_⟩
    funext z
    unfold upd
    split
    · rename_i e; rw [e, hg]; rfl
    · rfl
  | @snoc l i k x y h0 hp hn' ih =>
    obtain ⟨U, hU, hgU⟩ := ih
    have c := hn'.1
    have hSU := runs_sor hU hS
    obtain ⟨V, hV, hgV⟩ := hk_ran (T := U) (next_hunk hn') hSU (by rw [hgU, upd_at]) hn ha hb hf
    rw [linF_snoc, h0.lin]
    refine ⟨V, runs_app.2 ⟨U, hU, hV⟩, ?_⟩
    rw [hgV, hgU]
    have e : b.take y ++ a.drop x = b.take (y + 1) ++ a.drop (x + 1) := by
      rw [List.take_succ_eq_append_getElem c.yl, List.drop_eq_getElem_cons c.xl, c.eq, List.append_assoc]; rfl
    funext z
    unfold upd
    split
    · rw [e]
    · rfl
theorem comm_runs {nm : ByteArray} {a b : List ByteArray} {l : List (Nat × Nat)} {T : List File} (h : Comm a b l) (hS : Sor T) (hg : getT T nm = some a) (hn : nameOk nm = true) (ha : a.all lineOk = true) (hb : b.all lineOk = true) (hf : b.length ≤ 1048576) :
    ∃ U, Runs T (linAll nm a b l) U ∧ getT U = upd (getT T) nm (some b) := by
  obtain ⟨i, k, h1, h2⟩ := h
  obtain ⟨U, hU, hgU⟩ := chain_runs h1 hS hg hn ha hb hf
  obtain ⟨V, hV, hgV⟩ := hk_ran (T := U) (end_hunk h1.le.1 h1.le.2 h2) (runs_sor hU hS) (by rw [hgU, upd_at]) hn ha hb hf
  unfold linAll
  rw [linF_snoc, h1.lin]
  refine ⟨V, runs_app.2 ⟨U, hU, hV⟩, ?_⟩
  rw [hgV, hgU]
  funext z
  unfold upd
  split
  · rw [List.take_length, List.drop_length, List.append_nil]
  · rfl
/-! what the hunks cost -/
def costL (l : List Prim) : Nat := (l.map lnP).sum
theorem costL_app (l m : List Prim) : costL (l ++ m) = costL l + costL m := by unfold costL; simp
theorem hk_cost {nm : ByteArray} {a b : List ByteArray} {i k x y : Nat} (h : HunkOk a b i k x y) : costL (hk nm a b (i, k) (x, y)) = (x - i) + (y - k) := by
  have h1 := h.ix; have h2 := h.ky; have h3 := h.xl; have h4 := h.yl
  unfold hk
  dsimp only
  split
  · unfold costL hunkP lnP; simp; omega
  · show 0 = _; omega
theorem chain_cost {nm : ByteArray} {a b : List ByteArray} {l : List (Nat × Nat)} {i k : Nat} (h : Chain a b l i k) : costL (linF nm a b l).1 + 2 * l.length = i + k := by
  induction h with
  | nil => rfl
  | @snoc l i k x y h0 hp hn ih =>
    have c := hn.1
    have h1 := c.ix; have h2 := c.ky
    rw [linF_snoc, h0.lin]
    dsimp only
    rw [costL_app, hk_cost (next_hunk hn)]
    simp only [List.length_append, List.length_singleton]
    omega
theorem comm_cost {nm : ByteArray} {a b : List ByteArray} {l : List (Nat × Nat)} (h : Comm a b l) : costL (linAll nm a b l) + 2 * lcs a b = a.length + b.length := by
  have hl := h.len
  obtain ⟨i, k, h1, h2⟩ := h
  have h3 := chain_cost (nm := nm) h1
  have h4 := h1.le
  unfold linAll
  rw [linF_snoc, h1.lin]
  dsimp only
  rw [costL_app, hk_cost (end_hunk h4.1 h4.2 h2)]
  omega
structure Hks (nm : ByteArray) (a b : List ByteArray) (l : List Prim) (i k : Nat) : Prop where
  at_ : ∀ p ∈ l, ∃ i' k' x y, HunkOk a b i' k' x y ∧ (i' < x ∨ k' < y) ∧ p = hunkP nm a b (i', k') (x, y) ∧ (x < i ∧ y < k)
  up : l.Pairwise (fun (p q : Prim) => p.pos + p.new.length < q.pos)
theorem chain_hks {nm : ByteArray} {a b : List ByteArray} {l : List (Nat × Nat)} {i k : Nat} (h : Chain a b l i k) : Hks nm a b (linF nm a b l).1 i k := by
  induction h with
  | nil => exact ⟨fun p hp => (by cases hp), .nil⟩
  | @snoc l i k x y h0 hp hn ih =>
    have c := hn.1
    have h1 := c.ix; have h2 := c.ky
    have hh := next_hunk hn
    rw [linF_snoc, h0.lin]
    dsimp only
    unfold hk
    dsimp only
    split
    · rename_i ho
      refine ⟨fun p hp => ?_, List.pairwise_append.2 ⟨ih.up, List.pairwise_singleton _ _, fun p hp q hq => ?_⟩⟩
      · rcases List.mem_append.1 hp with hp | hp
        · obtain ⟨i', k', x', y', g1, g2, g3, g4⟩ := ih.at_ p hp
          exact ⟨i', k', x', y', g1, g2, g3, by omega, by omega⟩
        · exact ⟨i, k, x, y, hh, ho, List.mem_singleton.1 hp, Nat.lt_succ_self _, Nat.lt_succ_self _⟩
      · rw [List.mem_singleton.1 hq]
        obtain ⟨i', k', x', y', g1, g2, rfl, g4⟩ := ih.at_ p hp
        have := g1.ky; have := g1.yl
        unfold hunkP
        simp only [List.length_take, List.length_drop]
        omega
    · rw [List.append_nil]
      refine ⟨fun p hp => ?_, ih.up⟩
      obtain ⟨i', k', x', y', g1, g2, g3, g4⟩ := ih.at_ p hp
      exact ⟨i', k', x', y', g1, g2, g3, by omega, by omega⟩
theorem comm_hks {nm : ByteArray} {a b : List ByteArray} {l : List (Nat × Nat)} (h : Comm a b l) : Hks nm a b (linAll nm a b l) (a.length + 1) (b.length + 1) := by
  obtain ⟨i, k, h1, h2⟩ := h
  have ih := chain_hks (nm := nm) h1
  have h4 := h1.le
  have hh := end_hunk h4.1 h4.2 h2
  unfold linAll
  rw [linF_snoc, h1.lin]
  dsimp only
  unfold hk
  dsimp only
  split
  · rename_i ho
    refine ⟨fun p hp => ?_, List.pairwise_append.2 ⟨ih.up, List.pairwise_singleton _ _, fun p hp q hq => ?_⟩⟩
    · rcases List.mem_append.1 hp with hp | hp
      · obtain ⟨i', k', x', y', g1, g2, g3, g4⟩ := ih.at_ p hp
        exact ⟨i', k', x', y', g1, g2, g3, by omega, by omega⟩
      · exact ⟨i, k, a.length, b.length, hh, ho, List.mem_singleton.1 hp, Nat.lt_succ_self _, Nat.lt_succ_self _⟩
    · rw [List.mem_singleton.1 hq]
      obtain ⟨i', k', x', y', g1, g2, rfl, g4⟩ := ih.at_ p hp
      have := g1.ky; have := g1.yl
      unfold hunkP
      simp only [List.length_take, List.length_drop]
      omega
  · rw [List.append_nil]
    refine ⟨fun p hp => ?_, ih.up⟩
    obtain ⟨i', k', x', y', g1, g2, g3, g4⟩ := ih.at_ p hp
    exact ⟨i', k', x', y', g1, g2, g3, by omega, by omega⟩
theorem Hks.right {nm : ByteArray} {a b : List ByteArray} {l : List Prim} {i k : Nat} (h : Hks nm a b l i k) (hn : nameOk nm = true) (ha : a.all lineOk = true) (hb : b.all lineOk = true) (hf : b.length ≤ 1048576) : ∀ p ∈ l, p.right = true := by
  intro p hp
  obtain ⟨i', k', x', y', g1, g2, rfl, g4⟩ := h.at_ p hp
  exact g1.right g2 hn ha hb hf
theorem Hks.swap {nm : ByteArray} {a b : List ByteArray} {l : List Prim} {i k u v : Nat} (h : Hks nm a b l i k) (hn : nameOk nm = true) (ha : a.all lineOk = true) (hb : b.all lineOk = true) (hfa : a.length ≤ 1000000) (hfb : b.length ≤ 1000) (huv : u < v) (hv : v < l.length) :
    Go.Sx.swap l[u] l[v] = ({ l[v] with pos := l[v].pos - ((l[u].new.length : Int) - l[u].old.length) }, l[u], true) := by
  have hr := h.right hn ha hb (by omega)
  have r1 := hr l[u] (List.getElem_mem _)
  have r2 := hr l[v] (List.getElem_mem _)
  have hup := List.pairwise_iff_getElem.1 h.up u v (by omega) hv huv
  obtain ⟨i1, k1, x1, y1, g1, g2, g3, g4⟩ := h.at_ l[u] (List.getElem_mem _)
  obtain ⟨i2, k2, x2, y2, f1, f2, f3, f4⟩ := h.at_ l[v] (List.getElem_mem _)
  refine swap_mk (sw00a (by rw [g3]; rfl) (by rw [f3]; rfl) (by rw [g3, f3]; rfl) hup) r1 r2 ?_ r1
  have h5 : l[u].old.length = x1 - i1 := by have := g1.ix; have := g1.xl; rw [g3]; unfold hunkP; simp only [List.length_take, List.length_drop]; omega
  have h6 : l[u].new.length = y1 - k1 := by have := g1.ky; have := g1.yl; rw [g3]; unfold hunkP; simp only [List.length_take, List.length_drop]; omega
  have h7 : l[u].pos = (k1 : Int) := by rw [g3]; rfl
  have h8 := g1.ix; have h9 := g1.xl; have h10 := g1.ky; have h11 := g1.yl
  have h12 := f1.ky; have h13 := f1.yl
  have h14 : l[v].pos = (k2 : Int) := by rw [f3]; rfl
  have hk0 : l[v].kind = 0 := by rw [f3]; rfl
  unfold Prim.right at r2 ⊢
  rw [if_pos hk0] at r2
  dsimp only
  rw [if_pos hk0]
  simp only [Bool.and_eq_true, decide_eq_true_eq] at r2 ⊢
  obtain ⟨q1, ⟨⟨⟨⟨q2, q3⟩, q4⟩, q5⟩, q6⟩, q7⟩ := r2
  exact ⟨q1, ⟨⟨⟨⟨q2, by omega⟩, by omega⟩, q5⟩, q6⟩, q7⟩
theorem chain_same {nm : ByteArray} {a : List ByteArray} {l : List (Nat × Nat)} {i k : Nat} (h : Chain a a l i k) : i = k ∧ (linF nm a a l).1 = [] := by
  induction h with
  | nil => exact ⟨rfl, rfl⟩
  | @snoc l i k x y h0 hp hn ih =>
    obtain ⟨rfl, ih⟩ := ih
    have c := hn.1
    have h1 := c.ix; have h2 := c.ky; have h3 := c.xl
    have hi : i < a.length := by omega
    rcases hn.2 i i ⟨Nat.le_refl _, Nat.le_refl _, hi, hi, rfl, rfl⟩ with h4 | ⟨h4, h5⟩
    · omega
    · obtain rfl : i = x := by omega
      obtain rfl : i = y := by omega
      refine ⟨rfl, ?_⟩
      rw [linF_snoc, h0.lin, ih]
      unfold hk
      rw [if_neg (by dsimp only; omega)]
      rfl
theorem comm_same {nm : ByteArray} {a : List ByteArray} {l : List (Nat × Nat)} (h : Comm a a l) : linAll nm a a l = [] := by
  obtain ⟨i, k, h1, h2⟩ := h
  have h3 := chain_same (nm := nm) h1
  obtain ⟨rfl, h4⟩ := h3
  have h5 := h1.le
  have h6 : i = a.length := by
    have : cmn a a i i = a.length - i := by unfold cmn; rw [lcs_self, List.length_drop]
    omega
  unfold linAll
  rw [linF_snoc, h1.lin, h4]
  unfold hk
  rw [if_neg (by dsimp only; omega)]
  rfl
end Go.Proofs.YtdbiillompeclaaGreatDoor.X

end
section
set_option linter.unusedVariables false
set_option linter.unusedSimpArgs false
namespace Go.Proofs.YtdbiillompeclaaGreatDoor.X
open Go Go.RowKit Go.Proofs Go.Sx
/-! How the tables come to hold what is common. -/
def longB (l m : List ByteArray) : Bool := decide ((200 : Int) < (l.length : Int)) || decide ((200 : Int) < (m.length : Int))
theorem longB_no {l m : List ByteArray} (h : longB l m = false) : l.length ≤ 200 ∧ m.length ≤ 200 := by
  unfold longB at h
  simp only [Bool.or_eq_false_iff, decide_eq_false_iff_not] at h
  omega
def tf (l m : List ByteArray) (p q : Nat) : Nat → Nat → Int := fun r k => if p ≤ r ∨ (r + 1 = p ∧ q ≤ k) then (cmn l m r k : Int) else 0
theorem tf_in {l m : List ByteArray} {p q r k : Nat} (h : p ≤ r ∨ (r + 1 = p ∧ q ≤ k)) : tf l m p q r k = (cmn l m r k : Int) := by unfold tf; rw [if_pos h]
theorem tf0 (l m : List ByteArray) (q r k : Nat) : tf l m 0 q r k = (cmn l m r k : Int) := tf_in (.inl (Nat.zero_le _))
theorem len_init (l m : List ByteArray) : List.replicate (l.length + 1) (List.replicate (m.length + 1) (0 : Int)) = mkT (l.length + 1) (m.length + 1) (tf l m l.length m.length) := by
  rw [mkT_rep rfl]
  refine mkT_ext fun r k hr hk => ?_
  unfold tf
  split
  · rw [cmn_end (by omega)]; rfl
  · rfl
theorem len_row (l m : List ByteArray) (p : Nat) (hp : p < l.length) : mkT (l.length + 1) (m.length + 1) (tf l m (p + 1) 0) = mkT (l.length + 1) (m.length + 1) (tf l m p m.length) := by
  refine mkT_ext fun r k hr hk => ?_
  unfold tf
  by_cases h1 : p ≤ r
  · rw [if_pos (by omega), if_pos (.inl h1)]
  · rw [if_neg (by omega)]
    split
    · rw [cmn_end (by omega)]; rfl
    · rfl
theorem len_ne {l m : List ByteArray} {p q : Nat} (hp : p < l.length) (hq : q < m.length) (h : ¬ l[p] = m[q]) :
    mkT (l.length + 1) (m.length + 1) (upF (tf l m (p + 1) (q + 1)) p q (max (tf l m (p + 1) (q + 1) (p + 1) q) (tf l m (p + 1) (q + 1) p (q + 1)))) = mkT (l.length + 1) (m.length + 1) (tf l m (p + 1) q) := by
  refine mkT_ext fun r k hr hk => ?_
  unfold upF
  by_cases h1 : r = p ∧ k = q
  · obtain ⟨rfl, rfl⟩ := h1
    rw [if_pos ⟨rfl, rfl⟩, tf_in (.inl (Nat.le_refl _)), tf_in (.inr ⟨rfl, Nat.le_refl _⟩), tf_in (.inr ⟨rfl, Nat.le_refl _⟩), cmn_ne hp hq h]
    omega
  · rw [if_neg h1]
    unfold tf
    by_cases h2 : p + 1 ≤ r ∨ (r + 1 = p + 1 ∧ q + 1 ≤ k)
    · rw [if_pos h2, if_pos (by omega)]
    · rw [if_neg h2, if_neg (by omega)]
theorem len_eq {l m : List ByteArray} {p q : Nat} {z : Int} (hp : p < l.length) (hq : q < m.length) (h : l[p] = m[q]) :
    mkT (l.length + 1) (m.length + 1) (upF (upF (tf l m (p + 1) (q + 1)) p q z) p q (upF (tf l m (p + 1) (q + 1)) p q z (p + 1) (q + 1) + 1)) = mkT (l.length + 1) (m.length + 1) (tf l m (p + 1) q) := by
  refine mkT_ext fun r k hr hk => ?_
  have e1 : upF (tf l m (p + 1) (q + 1)) p q z (p + 1) (q + 1) = (cmn l m (p + 1) (q + 1) : Int) := by
    unfold upF; rw [if_neg (by omega), tf_in (.inl (Nat.le_refl _))]
  rw [e1]
  unfold upF
  by_cases h1 : r = p ∧ k = q
  · obtain ⟨rfl, rfl⟩ := h1
    rw [if_pos ⟨rfl, rfl⟩, tf_in (.inr ⟨rfl, Nat.le_refl _⟩), cmn_eq hp hq h]
    omega
  · rw [if_neg h1, if_neg h1]
    unfold tf
    by_cases h2 : p + 1 ≤ r ∨ (r + 1 = p + 1 ∧ q + 1 ≤ k)
    · rw [if_pos h2, if_pos (by omega)]
    · rw [if_neg h2, if_neg (by omega)]
theorem upF_at (f : Nat → Nat → Int) (r k : Nat) (v : Int) (r' k' : Nat) : upF f r k v r' k' = if r' = r ∧ k' = k then v else f r' k' := rfl
/-! the document's -/
def bf (l m : List ByteArray) (r k : Nat) : Int := (beg l m r k : Int)
def mkR (M : Nat) (f : Nat → Int) : List Int := (List.range M).map f
def upR (f : Nat → Int) (k : Nat) (v : Int) : Nat → Int := fun k' => if k' = k then v else f k'
theorem mkR_len (M : Nat) (f : Nat → Int) : (mkR M f).length = M := by simp [mkR]
theorem mkR_get {M : Nat} {f : Nat → Int} {k : Nat} (h : k < M) : (mkR M f)[k]? = some (f k) := mkR_at h
theorem mkR_upd {M : Nat} {f g : Nat → Int} {k : Nat} {v : Int} (h : ∀ k', k' < M → g k' = if k' = k then v else f k') : (mkR M f).set k v = mkR M g := mkR_set h
theorem mkR_ext {M : Nat} {f g : Nat → Int} (h : ∀ k, k < M → f k = g k) : mkR M f = mkR M g := List.map_congr_left fun k hk => h k (List.mem_range.1 hk)
def ct (l m : List ByteArray) (i k : Nat) : Nat → Int := fun k' => if k' < k then bf l m i k' else 0
theorem ct_0 (l m : List ByteArray) (i M : Nat) : List.replicate M (0 : Int) = mkR M (ct l m i 0) := by
  unfold mkR
  refine List.ext_getElem (by simp) fun j h1 h2 => ?_
  simp [ct]
theorem ct_all (l m : List ByteArray) (i : Nat) : mkR (m.length + 1) (ct l m i (m.length + 1)) = mkR (m.length + 1) (bf l m i) := mkR_ext fun k hk => by unfold ct; rw [if_pos hk]
theorem ct_zero {l m : List ByteArray} {i k : Nat} (h : i = 0 ∨ k = 0) : mkR (m.length + 1) (ct l m i k) = mkR (m.length + 1) (ct l m i (k + 1)) := mkR_ext fun k' hk => by
  unfold ct
  by_cases h1 : k' < k
  · rw [if_pos h1, if_pos (by omega)]
  · rw [if_neg h1]
    split
    · obtain rfl : k' = k := by omega
      unfold bf
      rcases h with rfl | rfl
      · rw [beg_0]; rfl
      · rw [beg_0r]; rfl
    · rfl
theorem mkT_snoc (n M : Nat) (f : Nat → Nat → Int) : mkT n M f ++ [mkR M (f n)] = mkT (n + 1) M f := by
  unfold mkT mkR
  rw [List.range_succ, List.map_append]; rfl
def mx (l m : List ByteArray) (i k : Nat) : Int := max (bf l m i (k + 1)) (bf l m (i + 1) k)
theorem st_a {l m : List ByteArray} {i k : Nat} : ∀ k', k' < m.length + 1 → upR (ct l m (i + 1) (k + 1)) (k + 1) (bf l m i (k + 1)) k' = if k' = k + 1 then bf l m i (k + 1) else ct l m (i + 1) (k + 1) k' := fun _ _ => rfl
theorem st_v1 (l m : List ByteArray) (i k : Nat) : upR (ct l m (i + 1) (k + 1)) (k + 1) (bf l m i (k + 1)) (k + 1) = bf l m i (k + 1) := by unfold upR; rw [if_pos rfl]
theorem st_v0 (l m : List ByteArray) (i k : Nat) (z : Int) : upR (ct l m (i + 1) (k + 1)) (k + 1) z k = bf l m (i + 1) k := by
  unfold upR ct; rw [if_neg (by omega), if_pos (by omega)]
theorem st_T {l m : List ByteArray} {i k : Nat} (h : bf l m i (k + 1) < bf l m (i + 1) k) : ∀ k', k' < m.length + 1 → upR (ct l m (i + 1) (k + 1)) (k + 1) (mx l m i k) k' = if k' = k + 1 then bf l m (i + 1) k else upR (ct l m (i + 1) (k + 1)) (k + 1) (bf l m i (k + 1)) k' := fun k' _ => by
  unfold upR mx
  split
  · omega
  · rfl
theorem st_F {l m : List ByteArray} {i k : Nat} (h : ¬ bf l m i (k + 1) < bf l m (i + 1) k) : mkR (m.length + 1) (upR (ct l m (i + 1) (k + 1)) (k + 1) (bf l m i (k + 1))) = mkR (m.length + 1) (upR (ct l m (i + 1) (k + 1)) (k + 1) (mx l m i k)) := by
  have : mx l m i k = bf l m i (k + 1) := by unfold mx; omega
  rw [this]
theorem st_vm (l m : List ByteArray) (i k : Nat) : upR (ct l m (i + 1) (k + 1)) (k + 1) (mx l m i k) (k + 1) = mx l m i k := by unfold upR; rw [if_pos rfl]
theorem st_ne {l m : List ByteArray} {i k : Nat} (hi : i < l.length) (hk : k < m.length) (h : ¬ l[i] = m[k]) : mkR (m.length + 1) (upR (ct l m (i + 1) (k + 1)) (k + 1) (mx l m i k)) = mkR (m.length + 1) (ct l m (i + 1) (k + 1 + 1)) := mkR_ext fun k' _ => by
  unfold upR ct
  by_cases h1 : k' = k + 1
  · subst h1
    rw [if_pos rfl, if_pos (by omega)]
    unfold mx bf
    rw [beg_ne hi hk h]; omega
  · rw [if_neg h1]
    by_cases h2 : k' < k + 1
    · rw [if_pos h2, if_pos (by omega)]
    · rw [if_neg h2, if_neg (by omega)]
theorem st_le {l m : List ByteArray} {i k : Nat} (hi : i < l.length) (hk : k < m.length) (h : l[i] = m[k]) (hn : ¬ mx l m i k < bf l m i k + 1) : mkR (m.length + 1) (upR (ct l m (i + 1) (k + 1)) (k + 1) (mx l m i k)) = mkR (m.length + 1) (ct l m (i + 1) (k + 1 + 1)) := mkR_ext fun k' _ => by
  unfold upR ct
  by_cases h1 : k' = k + 1
  · subst h1
    rw [if_pos rfl, if_pos (by omega)]
    have h3 := beg_lip hi hk
    unfold mx bf at *
    rw [beg_eq hi hk h]; omega
  · rw [if_neg h1]
    by_cases h2 : k' < k + 1
    · rw [if_pos h2, if_pos (by omega)]
    · rw [if_neg h2, if_neg (by omega)]
theorem st_gt {l m : List ByteArray} {i k : Nat} (hi : i < l.length) (hk : k < m.length) (h : l[i] = m[k]) : ∀ k', k' < m.length + 1 → ct l m (i + 1) (k + 1 + 1) k' = if k' = k + 1 then bf l m i k + 1 else upR (ct l m (i + 1) (k + 1)) (k + 1) (mx l m i k) k' := fun k' _ => by
  unfold upR ct
  by_cases h1 : k' = k + 1
  · subst h1
    rw [if_pos (by omega), if_pos rfl]
    unfold bf
    rw [beg_eq hi hk h]; omega
  · rw [if_neg h1, if_neg h1]
    by_cases h2 : k' < k + 1
    · rw [if_pos h2, if_pos (by omega)]
    · rw [if_neg h2, if_neg (by omega)]
end Go.Proofs.YtdbiillompeclaaGreatDoor.X

end
section
set_option linter.unusedVariables false
set_option linter.unusedSimpArgs false
namespace Go.Sx
open Go Go.RowKit
section
variable {ro : Option Nat} {P : Program} {M0 F0 : Nat → Prop} {w0 : World} {n : Nm} {σ : List (Nat × Value)} {Ξ Ξ1 : List Xsn} {Γ Γ1 : List Asn} {d : Nat} {ty : TypeId} {pos : String} {af : Array Edge}
variable {ops : Array Oper} {Q : Exit → Act → World → Prop} {S S' : Act → World → Prop}
/-! bundles -/
theorem Hp.unbunO {Fs : List (Nat → Prop)} {w : World} (h : Hp M0 F0 w0 (Sx.bun Ξ1 Γ1 :: Ξ) Γ Fs w) : ∃ Fs', Hp M0 F0 w0 (Ξ1 ++ Ξ) (Γ1 ++ Γ) Fs' w ∧ ∀ b, own Fs' b ↔ own Fs b := by
  obtain ⟨F, Fs2, rfl⟩ : ∃ F Fs2, Fs = F :: Fs2 := by
    cases Fs with
    | nil => exact h.ex.elim
    | cons F Fs2 => exact ⟨F, Fs2, rfl⟩
  obtain ⟨⟨Gs, h1, h2, h3, h4⟩, h5⟩ := h.ex
  have hpw := List.pairwise_cons.1 h.dis
  have ho : ∀ b, own (Gs ++ Fs2) b ↔ own (F :: Fs2) b := fun b => by rw [own_append, own_cons, h1 b]
  refine ⟨Gs ++ Fs2, h.re ho (List.pairwise_append.2 ⟨h2, hpw.2, fun G hG H hH b hg hh => hpw.1 H hH b ((h1 b).2 ⟨G, hG, hg⟩) hh⟩) (h3.append h5) fun p hp => ?_, ho⟩
  rcases List.mem_append.1 hp with hp | hp
  · exact h4 p hp
  · exact h.ga p hp
theorem Hp.toHead {is : List Nat} {xs Ξ' : List Xsn} {Γi : List Asn} {Fs : List (Nat → Prop)} {w : World} (h : Hp M0 F0 w0 Ξ Γ Fs w) (hs : takeAll is Ξ = some (xs, Ξ')) (hg : ∀ p ∈ Γi, p ∈ Γ) : ∃ Fs', Hp M0 F0 w0 (xs ++ Ξ') (Γi ++ Γ) Fs' w := by
  obtain ⟨Gs, Hs, hp, hin, hr⟩ := h.select hs hg
  exact ⟨_, h.back hp hr hin⟩
theorem stBun {is : List Nat} {Ξ' : List Xsn} {a : Act} {w : World} (hs : takeAll is Ξ = some (Ξ1, Ξ')) (hg : Sub Γ1 Γ) (h : St M0 F0 w0 n σ Ξ Γ a w) : St M0 F0 w0 n σ (bun Ξ1 Γ1 :: Ξ') Γ a w := by
  obtain ⟨hsl, Fs, hh⟩ := h
  obtain ⟨Fs1, h1⟩ := hh.toHead hs hg.mem
  obtain ⟨Fs2, h2, _⟩ := h1.bun (Γ1 := Γ1) (fun p hp => List.mem_append_left _ hp)
  exact ⟨hsl, Fs2, h2.less fun p hp => List.mem_append_right _ hp⟩
theorem stUnbun {i : Nat} {Ξ' : List Xsn} {a : Act} {w : World} (hs : takeAll [i] Ξ = some ([bun Ξ1 Γ1], Ξ')) (h : St M0 F0 w0 n σ Ξ Γ a w) : St M0 F0 w0 n σ (Ξ1 ++ Ξ') (Γ1 ++ Γ) a w := by
  obtain ⟨hsl, Fs, hh⟩ := h
  obtain ⟨Fs1, h1⟩ := hh.toHead (Γi := []) hs (fun p hp => by cases hp)
  obtain ⟨Fs2, h2, _⟩ := Hp.unbunO h1
  exact ⟨hsl, Fs2, h2⟩
theorem stPerm {is : List Nat} {xs Ξ' : List Xsn} {a : Act} {w : World} (hs : takeAll is Ξ = some (xs, Ξ')) (h : St M0 F0 w0 n σ Ξ Γ a w) : St M0 F0 w0 n σ (xs ++ Ξ') Γ a w := by
  obtain ⟨hsl, Fs, hh⟩ := h
  obtain ⟨Fs1, h1⟩ := hh.toHead (Γi := []) hs (fun p hp => by cases hp)
  exact ⟨hsl, Fs1, h1⟩
theorem St.nil {y : Option Addr × Nat} {i : Nat} (hi : At (nilA y) i Γ) : ∀ a w, St M0 F0 w0 n σ Ξ Γ a w → (y.1 = none → y.2 = 0) := fun a w h => by
  obtain ⟨hs, Fs, hh⟩ := h
  exact hh.ga _ (List.mem_of_getElem? hi.get)
theorem con_bun {f : FuncId} {vs : List Value} {Ξ0 : List Xsn} {Γi : List Asn} {X : Type} {rv : X → Value} {Ξ1' Ξo : X → List Xsn} {Γo : X → List Asn} (h : Con P f vs (Ξ1 ++ Ξ0) Γi X rv (fun x => Ξ1' x ++ Ξo x) Γo) :
    Con P f vs (bun Ξ1 [] :: Ξ0) Γi X rv (fun x => bun (Ξ1' x) [] :: Ξo x) Γo := by
  intro M0 Fs w hh
  obtain ⟨Fs1, h1, ho⟩ := Hp.unbunO hh
  refine (h M0 Fs1 w (h1.own0 (Gs' := Fs1) ho)).mono ?_
  rintro e w' ⟨x, Fs2, rfl, h2⟩
  obtain ⟨Fs3, h3, _⟩ := h2.bun (Γ1 := []) (fun p hp => by cases hp)
  exact ⟨x, Fs3, rfl, h3.own0 (fun b => (ho b).symm)⟩
/-! rows that become shorter -/
theorem RowE.take {α : Type} [Rp α] {M : Nat → Prop} {w : World} {l : List α} {xs : List Value} (h : RowE M w l xs) (k : Nat) (hk : k ≤ l.length) : RowE M w (l.take k) (xs.take (k * Rp.size α)) := by
  obtain ⟨x1, x2, e, h1, h2⟩ := h.split (l.take k) (l.drop k) (List.take_append_drop k l).symm
  have hl := h1.length
  rw [List.length_take, Nat.min_eq_left hk] at hl
  rw [e, ← hl, List.take_left' rfl]
  exact h1
theorem rowTk {α : Type} [Rp α] {e : TypeId} {A : Option Addr} {c i : Nat} {l : List α} {Ξ' : List Xsn} {a : Act} {w : World} (k : Nat) (hk : k ≤ l.length) (hi : At (row e A c l) i Ξ) (hs : SetAt (row e A c (l.take k)) i Ξ Ξ') (h : St M0 F0 w0 n σ Ξ Γ a w) : St M0 F0 w0 n σ Ξ' Γ a w := by
  obtain ⟨hsl, Fs, hh⟩ := h
  obtain ⟨rfl, _⟩ := hs.eq
  refine ⟨hsl, Fs, hh.swapX hi.get fun F hF hp => ?_⟩
  obtain ⟨xs, ho, hFb, hr⟩ := hp
  have hlen : (l.take k).length = k := by rw [List.length_take, Nat.min_eq_left hk]
  have hr2 := hr.take k hk
  refine ⟨xs.take (k * Rp.size α), ⟨by rw [hr2.length], ?_⟩, fun x => by rw [hFb x]; cases A <;> rfl, hr2⟩
  rcases ho.2 with ⟨h0, h1⟩ | ⟨g, cap, cur, hv, hb, hg, hle, hmax, hcs, hxs⟩
  · left
    obtain rfl : l = [] := List.length_eq_zero_iff.1 h1
    simp only [List.take_nil]
    exact ⟨h0, rfl⟩
  · right
    cases hv
    refine ⟨g, c, cur, rfl, hb, hg, by omega, hmax, hcs, ?_⟩
    rw [hlen, ← hxs, List.take_take, Nat.min_eq_left (Nat.mul_le_mul_right _ hk)]
theorem slh_val {A : Option Addr} {k c z : Nat} : Value.slice (if c = 0 then A else A.map (·.add (0 * z))) (k - 0) (c - 0) = .slice A k c := by
  have : (if c = 0 then A else A.map (·.add (0 * z))) = A := by
    split
    · rfl
    · cases A with
      | none => rfl
      | some a => simp [Addr.add]
  rw [this]; rfl
theorem o_clr {x : Operand} {t e : TypeId} {A : Option Addr} {c i lo : Nat} {l : List ByteArray} {N : Nat} {Ξ' : List Xsn} (hN : l.length = N) (ht : P.underlying t = some (.slice e)) (hz : ∀ w, (zeroValue e).run P w = .ok (.string ⟨#[]⟩) w)
    (hx : ev σ x = some (.slice (if c = lo then A else A.map (·.add (lo * 1))) (N - lo) (c - lo))) (hlo : lo ≤ l.length) (hi : At (row (α := ByteArray) e A c l) i Ξ) (hs' : SetAt (row (α := ByteArray) e A c (l.take lo ++ List.replicate (N - lo) ⟨#[]⟩)) i Ξ Ξ') :
    OpR P ⟨none, .call ⟨.builtin .clear, #[x], #[t]⟩, ty, pos, af, none⟩ (St M0 F0 w0 n σ Ξ Γ) (St M0 F0 w0 n σ Ξ' Γ) := by
  subst hN
  refine OpR.of_run rfl fun a w ⟨hsl, Fs, hh⟩ => ?_
  obtain ⟨rfl, _⟩ := hs'.eq
  obtain ⟨F, hF, xs, ho, hFb, hr⟩ := hh.ex.at hi.get
  rcases Nat.lt_or_ge lo l.length with hlt | hge
  · rcases ho.2 with ⟨h0, h1⟩ | ⟨g, cap, cur, hv, hb, hg, hle, hmax, hcs, hxs⟩
    · omega
    · cases hv
      rw [if_neg (by omega)] at hx
      have hsz : Rp.size ByteArray = 1 := rfl
      rw [hsz, Nat.mul_one] at hcs hxs
      have hone : ∀ v ∈ List.replicate (l.length - lo) (Value.string ⟨#[]⟩), v.oneCell' = true := fun v hv => by rw [List.eq_of_mem_replicate hv]; rfl
      have hst := run_storeCells_at P g lo e (List.replicate (l.length - lo) (Value.string ⟨#[]⟩)) 0 cur w hg (by rw [List.length_replicate]; omega) hone
      rw [Nat.add_zero, List.length_replicate] at hst
      have hzc : (Builtin.zeroCells (Value.string ⟨#[]⟩).cells (l.length - lo)).toList = List.replicate (l.length - lo) (Value.string ⟨#[]⟩) := by
        show (Builtin.zeroCells #[Value.string ⟨#[]⟩] (l.length - lo)).toList = _
        simp only [Builtin.zeroCells]
        apply List.ext_getElem
        · simp
        · intro i h1 h2
          simp [Nat.mod_one]
      obtain ⟨m, hm⟩ : ∃ m, l.length - lo = m + 1 := ⟨l.length - lo - 1, by omega⟩
      have hrun : (Builtin.clear_ #[t] ty #[.slice (some ⟨g, lo, none⟩) (l.length - lo) (c - lo)]).run P w = .ok (.tuple #[]) (w.setRow g (cur.toList.take lo ++ List.replicate (l.length - lo) (Value.string ⟨#[]⟩) ++ cur.toList.drop (lo + (l.length - lo))).toArray) := by
        rw [hm] at hst hzc ⊢
        simp [Builtin.clear_, run_underlying ht, hz, hzc, hst]
      have hx2 : ev σ x = some (.slice (some ⟨g, lo, none⟩) (l.length - lo) (c - lo)) := by
        rw [hx]; simp [Addr.add]
        try omega
      refine ⟨.tuple #[], _, by simp [execOp, resolve, invoke, builtin, hsl.ev hx2, hrun, Result.andThen], hsl, Fs, hh.set hF (w' := w.setRow g (cur.toList.take lo ++ List.replicate (l.length - lo) (Value.string ⟨#[]⟩) ++ cur.toList.drop (lo + (l.length - lo))).toArray) ⟨rfl, rfl, rfl, by simp, fun b _ hn => setRow_other w g b _ (fun e' => hn ((hFb b).2 (by rw [e']; rfl)))⟩ ?_⟩
      have hxl : xs = l.map (fun b => Value.string b) := rowE_strs hr
      have hlen : (l.take lo ++ List.replicate (l.length - lo) (⟨#[]⟩ : ByteArray)).length = l.length := by simp; omega
      refine ⟨(l.take lo ++ List.replicate (l.length - lo) (⟨#[]⟩ : ByteArray)).map (fun b => Value.string b), ⟨by rw [List.length_map, hlen, hsz, Nat.mul_one], .inr ⟨g, c, (cur.toList.take lo ++ List.replicate (l.length - lo) (Value.string ⟨#[]⟩) ++ cur.toList.drop (lo + (l.length - lo))).toArray, by rw [hlen], hb, setRow_heap w g _ _ e _ hg, by rw [hlen]; exact hle, hmax, ?_, ?_⟩⟩, fun b => by rw [hlen]; exact hFb b, strs_rowE _⟩
      · have hcl : cur.toList.length = cur.size := by simp
        simp [hsz]; omega
      · rw [hlen, hsz, Nat.mul_one]
        have hcl : cur.toList.length = cur.size := by simp
        have h1 := take_put (l := cur.toList) (vs := List.replicate (l.length - lo) (Value.string ⟨#[]⟩)) (a := lo) (N := l.length) (by rw [List.length_replicate]; omega) (by rw [hcl, hcs]; exact hle)
        rw [List.length_replicate] at h1
        rw [List.toList_toArray, h1, hxs, hxl, List.map_append, List.map_replicate, List.map_take, show lo + (l.length - lo) = (l.map fun b => Value.string b).length by simp; omega, List.drop_length, List.append_nil]
  · have hm : l.length - lo = 0 := by omega
    have hl : l.take lo ++ List.replicate (l.length - lo) (⟨#[]⟩ : ByteArray) = l := by rw [hm, List.take_of_length_le hge]; simp
    rw [hl]
    have hset : Ξ.set i (row (α := ByteArray) e A c l) = Ξ := by
      refine List.ext_getElem? fun j => ?_
      rw [List.getElem?_set]
      split
      · rename_i e1; subst e1; rw [hi.get]
      · rfl
    rw [hset]
    rw [hm] at hx
    refine ⟨.tuple #[], w, ?_, hsl, Fs, hh⟩
    generalize (if c = lo then A else A.map (·.add (lo * 1))) = A2 at hx
    cases A2 <;> simp [execOp, resolve, invoke, builtin, hsl.ev hx, Builtin.clear_, run_underlying ht, Result.andThen]
end
end Go.Sx

end
section
set_option linter.unusedVariables false
set_option linter.unusedSimpArgs false
namespace Go.Proofs.YtdbiillompeclaaGreatDoor.X
open Go Go.RowKit Go.Proofs Go.Sx
/-! What makes one tree of another one. -/
noncomputable def linesT (nm : ByteArray) (a b : List ByteArray) : List Prim := if longB a b = true then [] else linAll nm a b (commF a b)
theorem linesT_long {nm : ByteArray} {a b : List ByteArray} (h : longB a b = true) : linesT nm a b = [] := by unfold linesT; rw [if_pos h]
theorem linesT_not {nm : ByteArray} {a b : List ByteArray} (h : longB a b = false) : linesT nm a b = linAll nm a b (commF a b) := by unfold linesT; rw [if_neg (by rw [h]; simp)]
theorem linF_len (nm : ByteArray) (a b : List ByteArray) (l : List (Nat × Nat)) : (linF nm a b l).1.length ≤ l.length := by
  have key : ∀ (l : List (Nat × Nat)) (s : List Prim × (Nat × Nat)), (l.foldl (linS nm a b) s).1.length ≤ s.1.length + l.length := by
    intro l
    induction l with
    | nil => intro s; simp
    | cons q l ih =>
      intro s
      have h1 := ih (linS nm a b s q)
      have h2 : (linS nm a b s q).1.length ≤ s.1.length + 1 := by
        unfold linS hk; dsimp only; split <;> simp
      simp only [List.foldl_cons, List.length_cons]; omega
  have := key l ([], (0, 0))
  simpa [linF] using this
theorem linesT_len (nm : ByteArray) (a b : List ByteArray) : (linesT nm a b).length ≤ 201 := by
  cases h : longB a b with
  | true => rw [linesT_long h]; simp
  | false =>
    rw [linesT_not h]
    have h1 := longB_no h
    have h2 := linF_len nm a b (commF a b ++ [(a.length, b.length)])
    have h3 := (commF_spec a b).len
    have h4 := lcs_lenl a b
    unfold linAll
    simp only [List.length_append, List.length_singleton] at h2
    omega
theorem Chain.mono {a b : List ByteArray} {l : List (Nat × Nat)} {i k : Nat} (h : Chain a b l i k) : ∀ (j : Nat) (hj : j < l.length), (linF e0 a b (l.take j)).2.1 ≤ l[j].1 ∧ (linF e0 a b (l.take j)).2.2 ≤ l[j].2 ∧ l[j].1 < a.length ∧ l[j].2 < b.length := by
  induction h with
  | nil => intro j hj; simp at hj
  | @snoc l i k x y h0 hp hn ih =>
    intro j hj
    rcases Nat.lt_or_ge j l.length with h | h
    · have := ih j h
      rw [List.take_append_of_le_length (by omega)]
      simpa [List.getElem_append_left h] using this
    · have hjl : j = l.length := by simp at hj; omega
      subst hjl
      rw [List.take_append_of_le_length (Nat.le_refl _), List.take_length, h0.lin]
      have c := hn.1
      simp
      exact ⟨c.ix, c.ky, c.xl, c.yl⟩
theorem linF_snd (nm nm' : ByteArray) (a b : List ByteArray) (l : List (Nat × Nat)) : (linF nm a b l).2 = (linF nm' a b l).2 := by
  have key : ∀ (l : List (Nat × Nat)) (s s' : List Prim × (Nat × Nat)), s.2 = s'.2 → (l.foldl (linS nm a b) s).2 = (l.foldl (linS nm' a b) s').2 := by
    intro l
    induction l with
    | nil => intro s s' h; exact h
    | cons q l ih => intro s s' h; exact ih _ _ rfl
  exact key l _ _ rfl
theorem Comm.step {nm : ByteArray} {a b : List ByteArray} {l : List (Nat × Nat)} (h : Comm a b l) (j : Nat) (hj : j < (l ++ [(a.length, b.length)]).length) :
    (linF nm a b ((l ++ [(a.length, b.length)]).take j)).2.1 ≤ (l ++ [(a.length, b.length)])[j].1 ∧ (linF nm a b ((l ++ [(a.length, b.length)]).take j)).2.2 ≤ (l ++ [(a.length, b.length)])[j].2 ∧ (l ++ [(a.length, b.length)])[j].1 ≤ a.length ∧ (l ++ [(a.length, b.length)])[j].2 ≤ b.length := by
  obtain ⟨i, k, h1, h2⟩ := h
  rw [linF_snd nm e0]
  rcases Nat.lt_or_ge j l.length with h | h
  · have := h1.mono j h
    rw [List.take_append_of_le_length (by omega), List.getElem_append_left h]
    omega
  · have hjl : j = l.length := by simp at hj; omega
    subst hjl
    rw [List.take_append_of_le_length (Nat.le_refl _), List.take_length, h1.lin]
    have := h1.le
    simp
    omega
def filesT (T U : List File) (both : Bool) : List ByteArray := (T.map (·.1)).filter fun s => !(!(hasT U s == both))
def wideB (T : List File) : Bool := (T.map (·.1)).any fun s => longB (getL T s) []
def pRm (s : ByteArray) : Prim := ⟨2, s, e0, 0, [], []⟩
def pAd (s : ByteArray) : Prim := ⟨1, s, e0, 0, [], []⟩
noncomputable def goneT (T : List File) (s : ByteArray) : List Prim := linesT s (getL T s) [] ++ [pRm s]
noncomputable def comeT (U : List File) (s : ByteArray) : List Prim := [pAd s] ++ linesT s [] (getL U s)
noncomputable def bothT (T U : List File) (s : ByteArray) : List Prim := linesT s (getL T s) (getL U s)
noncomputable def treesT (T U : List File) : List Prim := if (wideB T || wideB U) = true then [] else (filesT T U false).flatMap (goneT T) ++ (filesT U T false).flatMap (comeT U) ++ (filesT T U true).flatMap (bothT T U)
theorem treesT_yes {T U : List File} (h : (wideB T || wideB U) = true) : treesT T U = [] := by unfold treesT; rw [if_pos h]
theorem treesT_no {T U : List File} (h : (wideB T || wideB U) = false) : treesT T U = (filesT T U false).flatMap (goneT T) ++ (filesT U T false).flatMap (comeT U) ++ (filesT T U true).flatMap (bothT T U) := by unfold treesT; rw [if_neg (by rw [h]; simp)]
theorem cost_take {l : List Prim} {k : Nat} (h : k < l.length) : costL (l.take (k + 1)) = costL (l.take k) + (l[k].old.length + l[k].new.length) := by
  rw [List.take_succ_eq_append_getElem h, costL_app]; simp [costL, lnP]
theorem cost_le (l : List Prim) (k : Nat) : costL (l.take k) ≤ costL l := by
  conv => rhs; rw [← List.take_append_drop k l, costL_app]
  omega
theorem cost_in {l : List Prim} {k : Nat} (h : k < l.length) : costL (l.take k) + (l[k].old.length + l[k].new.length) ≤ costL l := by
  rw [← cost_take h]; exact cost_le l _
theorem fm_take {α : Type} {f : α → List Prim} {l : List α} {k : Nat} (hk : k < l.length) : (l.take (k + 1)).flatMap f = (l.take k).flatMap f ++ f l[k] := by
  rw [List.take_succ_eq_append_getElem hk, List.flatMap_append]; simp
theorem fm_len {α : Type} {f : α → List Prim} {m : Nat} (h : ∀ x, (f x).length ≤ m) : ∀ (l : List α), (l.flatMap f).length ≤ l.length * m
  | [] => by simp
  | x :: l => by
    have := fm_len h l
    have := h x
    simp only [List.flatMap_cons, List.length_append, List.length_cons, Nat.succ_mul]
    omega
theorem goneT_len (T : List File) (s : ByteArray) : (goneT T s).length ≤ 202 := by unfold goneT; have := linesT_len s (getL T s) []; simp; omega
theorem comeT_len (U : List File) (s : ByteArray) : (comeT U s).length ≤ 202 := by unfold comeT; have := linesT_len s [] (getL U s); simp; omega
theorem bothT_len (T U : List File) (s : ByteArray) : (bothT T U s).length ≤ 202 := by unfold bothT; have := linesT_len s (getL T s) (getL U s); omega
theorem filesT_len (T U : List File) (b : Bool) : (filesT T U b).length ≤ T.length := by unfold filesT; have := List.length_filter_le (fun s => !(!(hasT U s == b))) (T.map (·.1)); simpa using this
theorem wide_get {T : List File} (hT : Sor T) (h : wideB T = false) (s : ByteArray) : (getL T s).length ≤ 200 := by
  unfold wideB at h
  unfold getL
  cases hg : getT T s with
  | none => simp
  | some l =>
    have hm := (getT_some hT).1 hg
    have h2 : ∀ x ∈ T, ¬ longB (getL T x.1) [] = true := by
      intro x hx
      have := List.any_eq_false.1 h x.1 (List.mem_map_of_mem hx)
      exact this
    have h3 := h2 (s, l) hm
    have : longB (getL T s) [] = false := by simpa using h3
    have := (longB_no this).1
    unfold getL at this
    rw [hg] at this
    exact this
theorem longB_nilr {l : List ByteArray} (h : l.length ≤ 200) : longB l [] = false := by unfold longB; simp; omega
theorem longB_nill {l : List ByteArray} (h : l.length ≤ 200) : longB [] l = false := by unfold longB; simp; omega
theorem longB_two {l m : List ByteArray} (h : l.length ≤ 200) (k : m.length ≤ 200) : longB l m = false := by unfold longB; simp; omega
/-! one after the other, deleted -/
structure DelI (l : List ByteArray) (f : ByteArray → Bool) (i j : Nat) (l' : List ByteArray) : Prop where
  len : l'.length = l.length
  ij : i < j
  jl : j ≤ l.length
  tk : l'.take i = (l.take j).filter fun s => !f s
  dr : ∀ q, j ≤ q → l'[q]? = l[q]?
theorem DelI.start {l : List ByteArray} {f : ByteArray → Bool} {k : Nat} (hk : k < l.length) (h1 : (l.take k).any f = false) (h2 : f l[k] = true) : DelI l f k (k + 1) l := by
  refine ⟨rfl, by omega, hk, ?_, fun _ _ => rfl⟩
  rw [List.take_succ_eq_append_getElem hk, List.filter_append, List.filter_eq_self.2 fun x hx => ?_]
  · simp [h2]
  · have := List.any_eq_false.1 h1 x hx
    simpa using this
theorem DelI.keep {l l' : List ByteArray} {f : ByteArray → Bool} {i j : Nat} (h : DelI l f i j l') (hj : j < l.length) (hf : f l[j] = false) : DelI l f (i + 1) (j + 1) (l'.set i l[j]) := by
  have h0 := h.ij
  have hi : i < l'.length := by have := h.len; omega
  refine ⟨by rw [List.length_set]; exact h.len, by omega, hj, ?_, fun q hq => ?_⟩
  · rw [List.take_succ_eq_append_getElem (by rw [List.length_set]; exact hi), List.getElem_set_self, List.take_set_of_le (Nat.le_refl _), h.tk, List.take_succ_eq_append_getElem hj, List.filter_append]
    simp [hf]
  · rw [List.getElem?_set_ne (by omega)]; exact h.dr q (by omega)
theorem DelI.skip {l l' : List ByteArray} {f : ByteArray → Bool} {i j : Nat} (h : DelI l f i j l') (hj : j < l.length) (hf : f l[j] = true) : DelI l f i (j + 1) l' := by
  have h0 := h.ij
  refine ⟨h.len, by omega, hj, ?_, fun q hq => h.dr q (by omega)⟩
  rw [h.tk, List.take_succ_eq_append_getElem hj, List.filter_append]
  simp [hf]
theorem DelI.get {l l' : List ByteArray} {f : ByteArray → Bool} {i j : Nat} (h : DelI l f i j l') (hj : j < l.length) : l'[j]? = some l[j] := by
  rw [h.dr j (Nat.le_refl _), List.getElem?_eq_getElem hj]
theorem DelI.done {l l' : List ByteArray} {f : ByteArray → Bool} {i j : Nat} (h : DelI l f i j l') (hj : ¬ j < l.length) (r : List ByteArray) : (l'.take i ++ r).take i = l.filter (fun s => !f s) ∧ i = (l.filter fun s => !f s).length := by
  have h0 := h.ij; have h1 := h.jl; have h2 := h.len
  obtain rfl : j = l.length := by omega
  have h3 := h.tk
  rw [List.take_length] at h3
  have h4 : (l'.take i).length = i := by rw [List.length_take]; omega
  refine ⟨by rw [List.take_left' h4, h3], ?_⟩
  rw [← h3, h4]
theorem filter_none {l : List ByteArray} {f : ByteArray → Bool} (h : l.any f = false) : l = l.filter fun s => !f s := by
  refine (List.filter_eq_self.2 fun x hx => ?_).symm
  have := List.any_eq_false.1 h x hx
  simpa using this
end Go.Proofs.YtdbiillompeclaaGreatDoor.X

end
section
set_option linter.unusedVariables false
set_option linter.unusedSimpArgs false
namespace Go.Proofs.YtdbiillompeclaaGreatDoor.X
open Go Go.RowKit Go.Proofs Go.Sx
/-! Law 06: what its laws say of it. -/
def few6 (l m : List ByteArray) : Bool := decide ((l.length : Int) ≤ 40) && decide ((m.length : Int) ≤ 40) && decide (((sizes l + sizes m : Nat) : Int) ≤ 4000)
theorem few6_yes {l m : List ByteArray} (h : few6 l m = true) : l.length ≤ 40 ∧ m.length ≤ 40 ∧ sizes l + sizes m ≤ 4000 := by
  unfold few6 at h
  simp only [Bool.and_eq_true, decide_eq_true_eq] at h
  omega
theorem few6_long {l m : List ByteArray} (h : few6 l m = true) : longB l m = false ∧ longB m l = false ∧ longB l l = false := by
  have := few6_yes h
  exact ⟨longB_two (by omega) (by omega), longB_two (by omega) (by omega), longB_two (by omega) (by omega)⟩
def sz2 (l m : List ByteArray) (k : Nat) : Nat := (([l, m].take k).map sizes).sum
theorem two_at {l m : List ByteArray} {k : Nat} (hk : k < 2) : ∃ r, [l, m][k]? = some r ∧ sz2 l m (k + 1) = sz2 l m k + sizes r ∧ r.length ≤ l.length + m.length ∧ sz2 l m (k + 1) ≤ sizes l + sizes m := by
  unfold sz2
  rcases k with _ | _ | k
  · exact ⟨l, rfl, by simp, by omega, by simp⟩
  · exact ⟨m, rfl, by simp, by omega, by simp⟩
  · omega
theorem sz2_all (l m : List ByteArray) : sz2 l m 2 = sizes l + sizes m := by simp [sz2]
/-! one line that is another one -/
theorem al6_comm : commF [⟨#[120]⟩, ⟨#[121]⟩, ⟨#[122]⟩] [⟨#[120]⟩, ⟨#[113]⟩, ⟨#[122]⟩] = [(0, 0), (2, 2)] := by
  refine (Comm.eq (l := [(0, 0), (2, 2)]) ⟨3, 3, ?_, by kernel_rfl⟩).symm
  have h1 : Chain [⟨#[120]⟩, ⟨#[121]⟩, ⟨#[122]⟩] [⟨#[120]⟩, ⟨#[113]⟩, ⟨#[122]⟩] ([] ++ [(0, 0)]) (0 + 1) (0 + 1) := by
    refine .snoc .nil (of_decide_eq_true (by kernel_rfl)) ⟨⟨Nat.le_refl _, Nat.le_refl _, by decide, by decide, rfl, rfl⟩, fun x' y' c => ?_⟩
    rcases Nat.eq_zero_or_pos x' with h | h
    · exact .inr ⟨h.symm, Nat.zero_le _⟩
    · exact .inl h
  have h2 : Chain [⟨#[120]⟩, ⟨#[121]⟩, ⟨#[122]⟩] [⟨#[120]⟩, ⟨#[113]⟩, ⟨#[122]⟩] (([] ++ [(0, 0)]) ++ [(2, 2)]) (2 + 1) (2 + 1) := by
    refine .snoc h1 (of_decide_eq_true (by kernel_rfl)) ⟨⟨by decide, by decide, by decide, by decide, rfl, by kernel_rfl⟩, fun x' y' c => ?_⟩
    obtain ⟨c1, c2, c3, c4, c5, _⟩ := c
    have c3' : x' < 3 := c3
    have c4' : y' < 3 := c4
    have hx : x' = 1 ∨ x' = 2 := by omega
    have hy : y' = 1 ∨ y' = 2 := by omega
    rcases hx with rfl | rfl <;> rcases hy with rfl | rfl
    · exact absurd c5 (of_decide_eq_false (by kernel_rfl))
    · exact absurd c5 (of_decide_eq_false (by kernel_rfl))
    · exact absurd c5 (of_decide_eq_false (by kernel_rfl))
    · exact .inr ⟨rfl, Nat.le_refl _⟩
  exact h2
def al6p : Prim := ⟨0, ⟨#[97]⟩, e0, 1, [⟨#[121]⟩], [⟨#[113]⟩]⟩
theorem al6_lines : linesT ⟨#[97]⟩ [⟨#[120]⟩, ⟨#[121]⟩, ⟨#[122]⟩] [⟨#[120]⟩, ⟨#[113]⟩, ⟨#[122]⟩] = [al6p] := by
  rw [linesT_not (by kernel_rfl), al6_comm]
  kernel_rfl
theorem comm_nil : commF [] [] = [] := (Comm.eq (l := []) ⟨0, 0, .nil, rfl⟩).symm
theorem lines_nil (nm : ByteArray) : linesT nm [] [] = [] := by
  rw [linesT_not (by rfl), comm_nil]
  rfl
theorem al6_trees : treesT [] [(⟨#[110]⟩, [])] = [pAd ⟨#[110]⟩] := by
  rw [treesT_no (by kernel_rfl)]
  have h1 : filesT [] [((⟨#[110]⟩ : ByteArray), ([] : List ByteArray))] false = [] := rfl
  have h2 : filesT [((⟨#[110]⟩ : ByteArray), ([] : List ByteArray))] [] false = [⟨#[110]⟩] := by kernel_rfl
  have h3 : filesT [] [((⟨#[110]⟩ : ByteArray), ([] : List ByteArray))] true = [] := rfl
  rw [h1, h2, h3]
  have h4 : getL [((⟨#[110]⟩ : ByteArray), ([] : List ByteArray))] ⟨#[110]⟩ = [] := by kernel_rfl
  simp only [List.flatMap_nil, List.flatMap_cons, List.nil_append, List.append_nil, comeT, h4, lines_nil]
theorem al6_add : tAdd [] ⟨#[110]⟩ = ([(⟨#[110]⟩, [])], 0) := by kernel_rfl
theorem al6_sor : Sor [((⟨#[110]⟩ : ByteArray), ([] : List ByteArray))] := List.pairwise_singleton _ _
/-! the laws -/
theorem cost_lines {nm : ByteArray} {l m : List ByteArray} (h : longB l m = false) : costL (linesT nm l m) + 2 * lcs l m = l.length + m.length := by
  rw [linesT_not h]; exact comm_cost (commF_spec l m)
theorem cost_turn {nm : ByteArray} {l m : List ByteArray} (h : longB l m = false) (h' : longB m l = false) : costL (linesT nm l m) = costL (linesT nm m l) := by
  have h1 := cost_lines (nm := nm) h
  have h2 := cost_lines (nm := nm) h'
  rw [lcs_comm m l] at h2
  omega
theorem lines_same {nm : ByteArray} {l : List ByteArray} (h : longB l l = false) : linesT nm l l = [] := by
  rw [linesT_not h]; exact comm_same (commF_spec l l)
theorem lines_cost_le {nm : ByteArray} {l m : List ByteArray} : costL (linesT nm l m) ≤ l.length + m.length := by
  cases h : longB l m with
  | true => rw [linesT_long h]; exact Nat.zero_le _
  | false => have := cost_lines (nm := nm) h; omega
theorem comm_at {l m : List ByteArray} {k : Nat} (hk : k < (commF l m).length) : ∃ (h1 : ((commF l m)[k]).1 < l.length) (h2 : ((commF l m)[k]).2 < m.length), l[((commF l m)[k]).1] = m[((commF l m)[k]).2] := by
  obtain ⟨i, j, h1, _⟩ := commF_spec l m
  exact (h1.at.1 _ (List.getElem_mem hk)).2.2
theorem comm_up {l m : List ByteArray} {k : Nat} (hk : k + 1 < (commF l m).length) : ((commF l m)[k]).1 < ((commF l m)[k + 1]).1 ∧ ((commF l m)[k]).2 < ((commF l m)[k + 1]).2 := by
  obtain ⟨i, j, h1, _⟩ := commF_spec l m
  exact List.pairwise_iff_getElem.1 h1.at.2 k (k + 1) (by omega) hk (Nat.lt_succ_self _)
theorem lcs_rep (s : ByteArray) : ∀ (n : Nat), lcs (List.replicate n s) [s] = min n 1
  | 0 => rfl
  | n + 1 => by
    rw [List.replicate_succ, lcs_cons, if_pos rfl, lcs_nilr]
    omega
theorem cost_rep {nm : ByteArray} {s : ByteArray} {n : Nat} (h : n ≤ 200) : costL (linesT nm (List.replicate n s) []) = n := by
  have := cost_lines (nm := nm) (l := List.replicate n s) (m := []) (longB_nilr (by simpa using h))
  rw [lcs_nilr] at this
  simpa using this
theorem lines_swap {nm : ByteArray} {l m : List ByteArray} {u v : Nat} (h : longB l m = false) (hn : nameOk nm = true) (ha : l.all lineOk = true) (hb : m.all lineOk = true) (huv : u < v) (hv : v < (linesT nm l m).length) :
    Go.Sx.swap ((linesT nm l m)[u]'(by omega)) (linesT nm l m)[v] = ({ (linesT nm l m)[v] with pos := ((linesT nm l m)[v]).pos - ((((linesT nm l m)[u]'(by omega)).new.length : Int) - ((linesT nm l m)[u]'(by omega)).old.length) }, (linesT nm l m)[u]'(by omega), true) := by
  have h1 := longB_no h
  have h2 : Hks nm l m (linesT nm l m) (l.length + 1) (m.length + 1) := by rw [linesT_not h]; exact comm_hks (commF_spec l m)
  exact h2.swap hn ha hb (by omega) (by omega) huv hv
theorem lines_fit {nm : ByteArray} {l m : List ByteArray} (h : longB l m = false) (hn : nm.size ≤ 2000000) (hl : ∀ s ∈ l, s.size ≤ 2000000) (hm : ∀ s ∈ m, s.size ≤ 2000000) : ∀ p ∈ linesT nm l m, p.fit := by
  have h1 := longB_no h
  have h2 : Hks nm l m (linesT nm l m) (l.length + 1) (m.length + 1) := by rw [linesT_not h]; exact comm_hks (commF_spec l m)
  intro p hp
  obtain ⟨i, k, x, y, _, _, rfl, _⟩ := h2.at_ p hp
  refine ⟨?_, ?_, hn, (Nat.zero_le 2000000 : (hunkP nm l m (i, k) (x, y)).to.size ≤ 2000000), fun s hs => hl s (List.mem_of_mem_drop (List.mem_of_mem_take hs)), fun s hs => hm s (List.mem_of_mem_drop (List.mem_of_mem_take hs))⟩
  · unfold hunkP; simp only [List.length_take, List.length_drop]; omega
  · unfold hunkP; simp only [List.length_take, List.length_drop]; omega
theorem sizes_in {l : List ByteArray} {s : ByteArray} (h : s ∈ l) : s.size ≤ sizes l := sizes_mem1 h
end Go.Proofs.YtdbiillompeclaaGreatDoor.X

end
section
set_option linter.unusedVariables false
set_option linter.unusedSimpArgs false
namespace Go.Sx
open Go Go.RowKit
/-! Names of rows: sorted, each once. -/
def compB (l : List ByteArray) : List ByteArray := (Lib.compact (l.map ofB)).map toB
open Go.Sort Go.Proofs in
theorem take_putCells2 (cur : Array Value) (cs pad : List (List UInt8)) (h : (cs ++ pad).length ≤ cur.size) : (putCells encStr 0 (cs ++ pad).toArray cur).toList.take cs.length = cs.map encStr := by
  have h1 := take_putCells cur (cs ++ pad) h
  have h2 := congrArg (List.take cs.length) h1
  rw [List.take_take, Nat.min_eq_left (by simp)] at h2
  rw [h2]
  simp
open Go.Sort in
theorem grow_nil (w : World) : grow w #[] = w := by
  cases w; simp [grow]
theorem compactUpTo_len (d : Array (List UInt8)) (m : Nat) : (Lib.compactUpTo d m).length ≤ m := by
  unfold Lib.compactUpTo
  rw [List.length_map]
  exact Nat.le_trans (List.length_filter_le _ _) (by simp)
theorem compB_len (l : List ByteArray) : (compB l).length ≤ l.length := by
  unfold compB Lib.compact
  rw [List.length_map]
  exact Nat.le_trans (compactUpTo_len _ _) (by simp)
open Go.Sort Go.Proofs in
theorem con_compact {P : Program} {f : FuncId} (e : TypeId) (A : Option Addr) (c : Nat) (l : List ByteArray) (hl : l.length ≤ 2000000)
    (h0 : ∀ w, Calls P f #[.slice none 0 0] w fun e w' => e = .returned (.slice none 0 0) ∧ w' = w)
    (h1 : ∀ (blk cap : Nat) (ss : List (List UInt8)) (w : World), Holds encStr w blk 0 ss.toArray → ss.length ≤ 9223372036854775807 → ss.length ≤ cap → Calls P f #[.slice (some ⟨blk, 0, none⟩) ss.length cap] w fun e w' =>
      e = .returned (.slice (some ⟨blk, 0, none⟩) (Lib.compact ss).length cap) ∧ ∃ q, w' = putRow encStr (Sort.ahead w q) blk 0 (Lib.compact ss ++ List.replicate (ss.length - (Lib.compact ss).length) []).toArray) :
    Con P f [.slice A l.length c] [row e A c l] [] Unit (fun _ => .slice A (compB l).length c) (fun _ => [row e A c (compB l)]) (fun _ => []) := by
  intro M0 Fs w hh
  obtain ⟨F, rfl⟩ : ∃ F, Fs = [F] := by
    match Fs, hh.ex with
    | [F], _ => exact ⟨F, rfl⟩
    | _ :: _ :: _, h => exact h.2.elim
  obtain ⟨⟨xs, ho, hF, hr⟩, _⟩ := hh.ex
  have hxs := rowE_strs hr
  subst hxs
  have henc : (l.map ofB).map encStr = l.map (fun b => Value.string b) := by simp [Function.comp_def, encStr, ofB]
  rcases ho.2 with ⟨hnil, h0l⟩ | ⟨g, cap, cur, hv, hbase, hb, h2, h3, h4, h5⟩
  · obtain ⟨rfl, hl', rfl⟩ : A = none ∧ l.length = 0 ∧ c = 0 := by simpa using hnil
    have hl0 : l = [] := List.eq_nil_of_length_eq_zero hl'
    subst hl0
    refine (h0 w).mono ?_
    rintro en w' ⟨rfl, rfl⟩
    refine ⟨(), [F], rfl, ?_⟩
    refine hh.one (Upd.refl _ _) (fun b h => .inl h) (fun b h => hh.lt b (by simp [own, h])) ?_
    exact ⟨[], ho, hF, RowE.nil⟩
  · obtain ⟨rfl, rfl⟩ : A = some ⟨g, 0, none⟩ ∧ c = cap := by simpa using hv
    have hH : Holds encStr w g 0 (l.map ofB).toArray := by
      refine holds_of_block hb ?_
      rw [List.length_map, henc]
      have : l.length * Rp.size ByteArray = l.length := Nat.mul_one _
      rw [this] at h5
      exact h5
    have hlt : g < w.heap.size := (Array.getElem?_eq_some_iff.1 hb).1
    have hc := h1 g c (l.map ofB) w hH (by simp; omega) (by simpa using h2)
    rw [List.length_map] at hc
    refine hc.mono ?_
    rintro en w' ⟨rfl, k, rfl⟩
    have hcl : (Lib.compact (l.map ofB)).length ≤ l.length := by have := compB_len l; unfold compB at this; rwa [List.length_map] at this
    have hcb : (compB l).length = (Lib.compact (l.map ofB)).length := by unfold compB; rw [List.length_map]
    refine ⟨(), [F], by rw [hcb], ?_⟩
    have hg := grownBy_sorted (w := w) (g := g) (n := k) (os := #[]) (Lib.compact (l.map ofB) ++ List.replicate (l.length - (Lib.compact (l.map ofB)).length) []).toArray
    rw [grow_nil] at hg
    have hhs := heap_sorted (n := k) (os := #[]) (Lib.compact (l.map ofB) ++ List.replicate (l.length - (Lib.compact (l.map ofB)).length) []).toArray hb
    rw [grow_nil] at hhs
    have hFg : ∀ b, F b ↔ g = b := fun b => by rw [hF]; simp [Value.ownBlock]
    refine hh.one ⟨hg.os, hg.tape, hg.output, hg.size, fun b hb hn => hg.block b hb (fun e' => hn ((hFg b).2 (by simpa using e'.symm)))⟩ (fun b h => .inl h) (fun b h => Nat.lt_of_lt_of_le (hh.lt b (by simp [own, h])) hg.size) ?_
    refine ⟨(compB l).map fun b => Value.string b, ?_, ?_, strs_rowE _⟩
    · have h4' : cur.size = c := by have : c * Rp.size ByteArray = c := Nat.mul_one _; rw [this] at h4; exact h4
      refine ⟨by simp [show Rp.size ByteArray = 1 from rfl], .inr ⟨g, c, _, rfl, hbase, hhs, by omega, h3, by simp [putCells, h4], ?_⟩⟩
      have ht := take_putCells2 cur (Lib.compact (l.map ofB)) (List.replicate (l.length - (Lib.compact (l.map ofB)).length) []) (by simp; omega)
      have e1 : (Lib.compact (l.map ofB)).map encStr = (compB l).map fun b => Value.string b := by simp [compB, Function.comp_def, encStr, toB]
      rw [← e1, ← ht, hcb]
      congr 1
      exact Nat.mul_one _
    · intro b
      rw [hF]; simp [Value.ownBlock]
/-! what the names are -/
theorem ble_lt {a b : List UInt8} (h : a ≤ b) (hne : a ≠ b) : a < b := by
  rcases List.le_iff_lt_or_eq.1 h with h | h
  · exact h
  · exact absurd h hne
theorem comp_spec (d : Array (List UInt8)) (hs : ∀ i j, i ≤ j → j < d.size → d[i]! ≤ d[j]!) : ∀ m, m ≤ d.size → (Lib.compactUpTo d m).Pairwise (· < ·) ∧ ∀ x, x ∈ Lib.compactUpTo d m ↔ ∃ j, j < m ∧ d[j]! = x := by
  intro m
  induction m with
  | zero => intro _; exact ⟨by simp [Lib.compactUpTo], fun x => by simp [Lib.compactUpTo]⟩
  | succ m ih =>
    intro hm
    obtain ⟨h1, h2⟩ := ih (by omega)
    rw [Lib.compactUpTo_succ]
    by_cases hk : Lib.keeps d m = true
    · rw [if_pos hk]
      refine ⟨List.pairwise_append.2 ⟨h1, by simp, fun a ha b hb => ?_⟩, fun x => ?_⟩
      · obtain ⟨j, hj, rfl⟩ := (h2 a).1 ha
        obtain rfl := List.mem_singleton.1 hb
        have hne : d[m]! ≠ d[m - 1]! := by
          unfold Lib.keeps at hk
          rw [decide_eq_true_eq] at hk
          rcases hk with hk | hk
          · omega
          · exact hk
        have h3 : d[j]! ≤ d[m - 1]! := hs _ _ (by omega) (by omega)
        have h4 : d[m - 1]! < d[m]! := ble_lt (hs _ _ (by omega) (by omega)) (fun e => hne e.symm)
        rcases List.le_iff_lt_or_eq.1 h3 with h5 | h5
        · exact List.lt_trans h5 h4
        · rw [h5]; exact h4
      · rw [List.mem_append, h2, List.mem_singleton]
        constructor
        · rintro (⟨j, hj, rfl⟩ | rfl)
          · exact ⟨j, by omega, rfl⟩
          · exact ⟨m, by omega, rfl⟩
        · rintro ⟨j, hj, rfl⟩
          by_cases e : j = m
          · exact .inr (by rw [e])
          · exact .inl ⟨j, by omega, rfl⟩
    · rw [if_neg hk, List.append_nil]
      refine ⟨h1, fun x => ?_⟩
      rw [h2]
      have hk' : ¬ (m = 0 ∨ d[m]! ≠ d[m - 1]!) := by unfold Lib.keeps at hk; simpa using hk
      constructor
      · rintro ⟨j, hj, rfl⟩; exact ⟨j, by omega, rfl⟩
      · rintro ⟨j, hj, rfl⟩
        by_cases e : j = m
        · subst e
          refine ⟨j - 1, by omega, ?_⟩
          by_cases h : d[j]! = d[j - 1]!
          · exact h.symm
          · exact absurd (.inr h) hk'
        · exact ⟨j, by omega, rfl⟩
def namesL (l : List Prim) : List ByteArray := (l.map refNames).flatten
def namesT (l : List Prim) : List ByteArray := compB (sortB (namesL l))
theorem comp_sort (l : List ByteArray) : (compB (sortB l)).Pairwise kl ∧ ∀ x, x ∈ compB (sortB l) ↔ x ∈ l := by
  have hse : (sortB l).map ofB = (l.map ofB).mergeSort fun x y => decide (x ≤ y) := by
    unfold sortB; rw [List.map_map]
    conv => rhs; rw [← List.map_id ((l.map ofB).mergeSort fun x y => decide (x ≤ y))]
    exact List.map_congr_left fun b _ => rfl
  have hpw : ((sortB l).map ofB).Pairwise (· ≤ ·) := by
    rw [hse]
    have := List.pairwise_mergeSort (le := fun x y : List UInt8 => decide (x ≤ y)) (by intro a b c h1 h2; simp only [decide_eq_true_eq] at *; exact List.le_trans h1 h2) (by intro a b; simp only [Bool.or_eq_true, decide_eq_true_eq]; exact List.le_total a b) (l.map ofB)
    exact this.imp fun h => by simpa using h
  have hs : ∀ i j, i ≤ j → j < ((sortB l).map ofB).toArray.size → ((sortB l).map ofB).toArray[i]! ≤ ((sortB l).map ofB).toArray[j]! := by
    intro i j hij hj
    have hj' : j < ((sortB l).map ofB).length := by simpa using hj
    rw [getElem!_pos _ i (by simpa using (by omega : i < ((sortB l).map ofB).length)), getElem!_pos _ j hj]
    rcases Nat.lt_or_eq_of_le hij with h | h
    · have := List.pairwise_iff_getElem.1 hpw i j (by omega) hj' h
      simpa using this
    · subst h; exact List.le_refl _
  obtain ⟨h1, h2⟩ := comp_spec _ hs _ (Nat.le_refl _)
  have hc : Lib.compact ((sortB l).map ofB) = Lib.compactUpTo ((sortB l).map ofB).toArray ((sortB l).map ofB).toArray.size := by unfold Lib.compact; simp
  unfold compB
  rw [hc]
  refine ⟨?_, fun x => ?_⟩
  · rw [List.pairwise_map]
    exact h1
  · rw [List.mem_map, ← sortB_mem (l := l)]
    constructor
    · rintro ⟨y, hy, rfl⟩
      obtain ⟨j, hj, rfl⟩ := (h2 y).1 hy
      have hj' : j < (sortB l).length := by simpa using hj
      have e : ((sortB l).map ofB).toArray[j]! = ofB (sortB l)[j] := by rw [getElem!_pos _ j hj]; simp
      rw [e, toB_ofB]
      exact List.getElem_mem hj'
    · intro hx
      obtain ⟨j, hj, e⟩ := List.mem_iff_getElem.1 hx
      refine ⟨ofB x, (h2 _).2 ⟨j, by simpa using hj, ?_⟩, rfl⟩
      rw [getElem!_pos _ j (by simpa using hj)]
      simp [e]
theorem kls_ext {a b : List ByteArray} (ha : a.Pairwise kl) (hb : b.Pairwise kl) (h : ∀ x, x ∈ a ↔ x ∈ b) : a = b := by
  have nd : ∀ {l : List ByteArray}, l.Pairwise kl → l.Nodup := fun hl => List.Pairwise.imp (R := kl) (S := fun a b => a ≠ b) (fun h e => kl_ne h e) hl
  exact List.Perm.eq_of_pairwise (le := kl) (fun a b _ _ h1 h2 => absurd (kl_trans h1 h2) (kl_irrefl _)) ha hb ((List.perm_ext_iff_of_nodup (nd ha) (nd hb)).2 h)
theorem kls_nodup {l : List ByteArray} (h : l.Pairwise kl) : l.Nodup := List.Pairwise.imp (R := kl) (S := fun a b => a ≠ b) (fun h e => kl_ne h e) h
structure Sel (all o : List ByteArray) : Prop where
  so : o.Pairwise kl
  sub : ∀ x ∈ o, x ∈ all
  rest : ∀ x ∈ all, x ∈ o ∨ ∀ y ∈ o, kl y x
def above (o : List ByteArray) (x : ByteArray) : Prop := o = [] ∨ ∃ h : o ≠ [], kl (o.getLast h) x
theorem Sel.above {all o : List ByteArray} (h : Sel all o) (x : ByteArray) : above o x ↔ ∀ y ∈ o, kl y x := by
  unfold Go.Sx.above
  constructor
  · rintro (rfl | ⟨h1, h2⟩)
    · intro y hy; cases hy
    · intro y hy
      have e := List.dropLast_concat_getLast h1
      rw [← e, List.mem_append] at hy
      rcases hy with hy | hy
      · have := h.so
        rw [← e, List.pairwise_append] at this
        exact kl_trans (this.2.2 y hy _ (List.mem_singleton_self _)) h2
      · rw [List.mem_singleton.1 hy]; exact h2
  · intro h1
    by_cases e : o = []
    · exact .inl e
    · exact .inr ⟨e, h1 _ (List.getLast_mem e)⟩
theorem Sel.nil (all : List ByteArray) : Sel all [] := ⟨List.Pairwise.nil, (fun x h => by cases h), (fun x _ => .inr (fun y h => by cases h))⟩
def Low (o seen : List ByteArray) (least : ByteArray) (is : Bool) : Prop :=
  (is = false → ∀ x ∈ seen, ¬ above o x) ∧ (is = true → least ∈ seen ∧ above o least ∧ ∀ x ∈ seen, above o x → ¬ kl x least)
theorem Low.nil (o : List ByteArray) (z : ByteArray) : Low o [] z false := ⟨(fun _ x h => by cases h), (fun h => by cases h)⟩
theorem Low.skip {o seen : List ByteArray} {z x : ByteArray} {is : Bool} (h : Low o seen z is) (hx : ¬ (Go.Sx.above o x ∧ (is = false ∨ kl x z))) : Low o (seen ++ [x]) z is := by
  refine ⟨fun e y hy => ?_, fun e => ?_⟩
  · rcases List.mem_append.1 hy with hy | hy
    · exact h.1 e y hy
    · rw [List.mem_singleton.1 hy]; exact fun ha => hx ⟨ha, .inl e⟩
  · obtain ⟨h1, h2, h3⟩ := h.2 e
    refine ⟨List.mem_append_left _ h1, h2, fun y hy ha => ?_⟩
    rcases List.mem_append.1 hy with hy | hy
    · exact h3 y hy ha
    · rw [List.mem_singleton.1 hy] at ha ⊢; exact fun hk => hx ⟨ha, .inr hk⟩
theorem Low.take {o seen : List ByteArray} {z x : ByteArray} {is : Bool} (h : Low o seen z is) (hx : Go.Sx.above o x) (hy : is = false ∨ kl x z) : Low o (seen ++ [x]) x true := by
  refine ⟨(fun e => by cases e), (fun _ => ⟨by simp, hx, fun y hm ha hk => ?_⟩)⟩
  rcases List.mem_append.1 hm with hm | hm
  · cases is with
    | false => exact h.1 rfl y hm ha
    | true =>
      obtain ⟨h1, h2, h3⟩ := h.2 rfl
      rcases hy with hy | hy
      · cases hy
      · exact h3 y hm ha (kl_trans hk hy)
  · rw [List.mem_singleton.1 hm] at hk; exact kl_irrefl _ hk
theorem Sel.step {all o : List ByteArray} {z : ByteArray} (h : Sel all o) (hl : Low o all z true) : Sel all (o ++ [z]) := by
  obtain ⟨h1, h2, h3⟩ := hl.2 rfl
  have h4 := (h.above z).1 h2
  refine ⟨List.pairwise_append.2 ⟨h.so, by simp, fun a ha b hb => by rw [List.mem_singleton.1 hb]; exact h4 a ha⟩, fun x hx => ?_, fun x hx => ?_⟩
  · rcases List.mem_append.1 hx with hx | hx
    · exact h.sub x hx
    · rw [List.mem_singleton.1 hx]; exact h1
  · rcases h.rest x hx with h5 | h5
    · exact .inl (List.mem_append_left _ h5)
    · have h6 := h3 x hx ((h.above x).2 h5)
      by_cases e : x = z
      · exact .inl (by rw [e]; simp)
      · refine .inr fun y hy => ?_
        rcases List.mem_append.1 hy with hy | hy
        · exact h5 y hy
        · rw [List.mem_singleton.1 hy]
          exact Classical.byContradiction fun hn => e (kl_tri h6 hn)
theorem Sel.done {l : List Prim} {o : List ByteArray} {z : ByteArray} (h : Sel (namesL l) o) (hl : Low o (namesL l) z false) : o = namesT l := by
  obtain ⟨h1, h2⟩ := comp_sort (namesL l)
  refine kls_ext h.so h1 fun x => ?_
  show x ∈ o ↔ x ∈ compB (sortB (namesL l))
  rw [h2]
  refine ⟨h.sub x, fun hx => ?_⟩
  rcases h.rest x hx with h3 | h3
  · exact h3
  · exact absurd ((h.above x).2 h3) (hl.1 rfl x hx)
theorem Sel.len {all o : List ByteArray} (h : Sel all o) : o.length ≤ all.length := nodup_le _ _ (kls_nodup h.so) h.sub
theorem namesT_len (l : List Prim) : (namesT l).length ≤ 2 * l.length := by
  have h1 : (namesT l).length ≤ (namesL l).length := by
    unfold namesT
    exact Nat.le_trans (compB_len _) (by rw [sortB_length]; exact Nat.le_refl _)
  have h2 : (namesL l).length ≤ 2 * l.length := by
    clear h1
    unfold namesL
    induction l with
    | nil => simp
    | cons p l ih =>
      simp only [List.map_cons, List.flatten_cons, List.length_append, List.length_cons]
      have h3 : (refNames p).length ≤ 2 := by
        unfold refNames
        split
        · split <;> simp
        · simp
      omega
  omega
theorem namesL_take {l : List Prim} {k : Nat} (h : k < l.length) : namesL (l.take (k + 1)) = namesL (l.take k) ++ refNames l[k] := by
  unfold namesL
  rw [List.take_succ_eq_append_getElem h, List.map_append, List.flatten_append]; simp
def touchT (l : List Prim) (s : ByteArray) : Bool := (namesT l).any fun x => decide (ofB s <+: ofB x)
end Go.Sx

end
section
set_option linter.unusedVariables false
set_option linter.unusedSimpArgs false
namespace Go.Proofs.YtdbiillompeclaaGreatDoor.X
open Go Go.RowKit Go.Proofs Go.Sx
/-! What trees cost. -/
def longest (T : List File) : Nat := (T.map fun x => x.2.length).foldl max 0
theorem foldl_max : ∀ (l : List Nat) (a : Nat), (∀ x ∈ l, x ≤ l.foldl max a) ∧ a ≤ l.foldl max a
  | [], a => ⟨fun x hx => (by cases hx), Nat.le_refl _⟩
  | y :: l, a => by
    have ih := foldl_max l (max a y)
    simp only [List.foldl_cons]
    refine ⟨fun x hx => ?_, by omega⟩
    rcases List.mem_cons.1 hx with rfl | hx
    · omega
    · exact ih.1 x hx
theorem longest_mem {T : List File} {x : File} (h : x ∈ T) : x.2.length ≤ longest T := (foldl_max _ 0).1 _ (List.mem_map_of_mem h)
theorem longest_take {T : List File} {k : Nat} (h : k < T.length) : longest (T.take (k + 1)) = max (longest (T.take k)) T[k].2.length := by
  unfold longest
  rw [List.take_succ_eq_append_getElem h, List.map_append, List.foldl_append]; rfl
theorem longest_le {T : List File} {m : Nat} (h : ∀ x ∈ T, x.2.length ≤ m) : longest T ≤ m := by
  have key : ∀ (l : List Nat) (a : Nat), (∀ x ∈ l, x ≤ m) → a ≤ m → l.foldl max a ≤ m := by
    intro l
    induction l with
    | nil => intro a _ h; exact h
    | cons y l ih =>
      intro a hl ha
      have := hl y (by simp)
      exact ih _ (fun x hx => hl x (by simp [hx])) (by omega)
  refine key _ 0 (fun x hx => ?_) (Nat.zero_le _)
  obtain ⟨y, hy, rfl⟩ := List.mem_map.1 hx
  exact h y hy
theorem short_get {T : List File} (hT : Sor T) (h : ¬ 200 < longest T) (s : ByteArray) : (getL T s).length ≤ 200 := by
  unfold getL
  cases hg : getT T s with
  | none => exact Nat.zero_le _
  | some l =>
    have := longest_mem ((getT_some hT).1 hg)
    simp at this ⊢
    omega
theorem short_wide {T : List File} (hT : Sor T) (h : ¬ 200 < longest T) : wideB T = false := by
  unfold wideB
  rw [List.any_eq_false]
  intro s _
  rw [longB_nilr (short_get hT h s)]; simp
theorem costL_fm {α : Type} (f : α → List Prim) : ∀ (l : List α), costL (l.flatMap f) = (l.map fun x => costL (f x)).sum
  | [] => rfl
  | x :: l => by rw [List.flatMap_cons, costL_app, costL_fm f l]; rfl
theorem cost_to {nm : ByteArray} {l : List ByteArray} (h : l.length ≤ 200) : costL (linesT nm [] l) = l.length := by
  have := cost_lines (nm := nm) (longB_nill h)
  rw [lcs_nil] at this
  simpa using this
theorem cost_from {nm : ByteArray} {l : List ByteArray} (h : l.length ≤ 200) : costL (linesT nm l []) = l.length := by
  have := cost_lines (nm := nm) (longB_nilr h)
  rw [lcs_nilr] at this
  simpa using this
theorem cost_gone {T : List File} {s : ByteArray} (h : (getL T s).length ≤ 200) : costL (goneT T s) = (getL T s).length := by
  unfold goneT; rw [costL_app, cost_from h]; rfl
theorem cost_come {U : List File} {s : ByteArray} (h : (getL U s).length ≤ 200) : costL (comeT U s) = (getL U s).length := by
  unfold comeT; rw [costL_app, cost_to h]; show 0 + _ = _; omega
theorem cost_both {T U : List File} {s : ByteArray} (h : (getL T s).length ≤ 200) (k : (getL U s).length ≤ 200) : costL (bothT T U s) = costL (bothT U T s) := by
  unfold bothT; exact cost_turn (longB_two h k) (longB_two k h)
theorem sor_keys' {T : List File} (h : Sor T) : (T.map (·.1)).Pairwise kl := List.pairwise_map.2 h
theorem mem_filesT {T U : List File} {b : Bool} {s : ByteArray} : s ∈ filesT T U b ↔ hasT T s = true ∧ hasT U s = b := by
  unfold filesT
  rw [List.mem_filter, List.mem_map]
  constructor
  · rintro ⟨⟨x, hx, rfl⟩, h⟩
    exact ⟨hasT_iff.2 ⟨x, hx, rfl⟩, by simpa using h⟩
  · rintro ⟨h1, h2⟩
    obtain ⟨x, hx, e⟩ := hasT_iff.1 h1
    exact ⟨⟨x, hx, e⟩, by simp [h2]⟩
theorem files_sor {T : List File} (h : Sor T) (U : List File) (b : Bool) : (filesT T U b).Pairwise kl := (sor_keys' h).filter _
theorem files_both {T U : List File} (hT : Sor T) (hU : Sor U) : filesT T U true = filesT U T true :=
  kls_ext (files_sor hT U true) (files_sor hU T true) fun s => by rw [mem_filesT, mem_filesT, and_comm]
theorem cost_trees {T U : List File} (hT : Sor T) (hU : Sor U) (h : ¬ 200 < longest T) (k : ¬ 200 < longest U) :
    costL (treesT T U) = ((filesT T U false).map fun s => (getL T s).length).sum + ((filesT U T false).map fun s => (getL U s).length).sum + ((filesT T U true).map fun s => costL (bothT T U s)).sum := by
  rw [treesT_no (by rw [short_wide hT h, short_wide hU k]; rfl), costL_app, costL_app, costL_fm, costL_fm, costL_fm]
  congr 2
  · congr 1
    exact List.map_congr_left fun s _ => cost_gone (short_get hT h s)
  · congr 1
    exact List.map_congr_left fun s _ => cost_come (short_get hU k s)
theorem trees_turn {T U : List File} (hT : Sor T) (hU : Sor U) (h : ¬ 200 < longest T) (k : ¬ 200 < longest U) : costL (treesT T U) = costL (treesT U T) := by
  rw [cost_trees hT hU h k, cost_trees hU hT k h, files_both hT hU]
  have : (filesT U T true).map (fun s => costL (bothT T U s)) = (filesT U T true).map (fun s => costL (bothT U T s)) := List.map_congr_left fun s _ => cost_both (short_get hT h s) (short_get hU k s)
  rw [this]; omega
def linesOf (T : List File) : Nat := (T.map fun x => x.2.length).sum
theorem sum_keys {T : List File} (hT : Sor T) : ((T.map (·.1)).map fun s => (getL T s).length).sum = linesOf T := by
  unfold linesOf
  rw [List.map_map]
  congr 1
  refine List.map_congr_left fun x hx => ?_
  show (getL T x.1).length = _
  unfold getL
  rw [(getT_some hT).2 (show (x.1, x.2) ∈ T from hx)]; rfl
theorem short_nil : ¬ 200 < longest [] := by decide
theorem files_nil (T : List File) : filesT T [] false = T.map (·.1) ∧ filesT T [] true = [] ∧ ∀ b, filesT [] T b = [] := by
  refine ⟨List.filter_eq_self.2 fun x _ => rfl, List.filter_eq_nil_iff.2 fun x _ => ?_, fun b => rfl⟩
  show ¬ (!(!(hasT [] x == true))) = true
  have : hasT [] x = false := rfl
  rw [this]; decide
theorem trees_from {T : List File} (hT : Sor T) (h : ¬ 200 < longest T) : costL (treesT T []) = linesOf T := by
  obtain ⟨h1, h2, h3⟩ := files_nil T
  rw [cost_trees hT Sor.nil h short_nil, h1, h2, h3, ← sum_keys hT]
  simp
theorem trees_to {T : List File} (hT : Sor T) (h : ¬ 200 < longest T) : costL (treesT [] T) = linesOf T := by
  rw [← trees_turn hT Sor.nil h short_nil, trees_from hT h]
/-! bounds -/
theorem costL_fm_le {α : Type} {f : α → List Prim} {m : Nat} (h : ∀ x, costL (f x) ≤ m) : ∀ (l : List α), costL (l.flatMap f) ≤ l.length * m
  | [] => by simp [costL]
  | x :: l => by
    have := costL_fm_le h l
    have := h x
    rw [List.flatMap_cons, costL_app, List.length_cons, Nat.succ_mul]; omega
theorem lines_cost_b (nm : ByteArray) (a b : List ByteArray) : costL (linesT nm a b) ≤ 400 := by
  cases h : longB a b with
  | true => rw [linesT_long h]; exact Nat.zero_le _
  | false => have := cost_lines (nm := nm) h; have := longB_no h; omega
theorem trees_bnd (T U : List File) : (treesT T U).length ≤ (T.length + T.length + U.length) * 202 ∧ costL (treesT T U) ≤ (T.length + T.length + U.length) * 400 := by
  cases h : (wideB T || wideB U) with
  | true => rw [treesT_yes h]; exact ⟨Nat.zero_le _, Nat.zero_le _⟩
  | false =>
    rw [treesT_no h]
    have a1 := fm_len (goneT_len T) (filesT T U false)
    have a2 := fm_len (comeT_len U) (filesT U T false)
    have a3 := fm_len (bothT_len T U) (filesT T U true)
    have f1 := filesT_len T U false
    have f2 := filesT_len U T false
    have f3 := filesT_len T U true
    have c1 := costL_fm_le (f := goneT T) (m := 400) (fun s => by unfold goneT; rw [costL_app]; have := lines_cost_b s (getL T s) []; have e : costL [pRm s] = 0 := rfl; omega) (filesT T U false)
    have c2 := costL_fm_le (f := comeT U) (m := 400) (fun s => by unfold comeT; rw [costL_app]; have := lines_cost_b s [] (getL U s); have e : costL [pAd s] = 0 := rfl; omega) (filesT U T false)
    have c3 := costL_fm_le (f := bothT T U) (m := 400) (fun s => by unfold bothT; exact lines_cost_b s _ _) (filesT T U true)
    simp only [List.length_append, costL_app]
    omega
end Go.Proofs.YtdbiillompeclaaGreatDoor.X

end
section
set_option linter.unusedVariables false
set_option linter.unusedSimpArgs false
namespace Go.Proofs.YtdbiillompeclaaGreatDoor.X
open Go Go.RowKit Go.Proofs Go.Sx
/-! What makes one row, or one tree, of another one makes it. -/
theorem one_sor (nm : ByteArray) (l : List ByteArray) : Sor [(nm, l)] := List.pairwise_singleton _ _
theorem one_get (nm : ByteArray) (l : List ByteArray) : getT [(nm, l)] nm = some l := by simp [getT]
theorem one_getL (nm : ByteArray) (l : List ByteArray) : getL [(nm, l)] nm = l := by unfold getL; rw [one_get]; rfl
theorem one_has (nm : ByteArray) (l : List ByteArray) : hasT [(nm, l)] nm = true := by unfold hasT; rw [one_get]; rfl
theorem one_add {nm : ByteArray} (h : nameOk nm = true) : tAdd [] nm = ([(nm, [])], 0) := by
  unfold tAdd; rw [if_neg (by rw [h]; simp), if_neg (by simp [hasT, getT])]; rfl
theorem one_put {nm : ByteArray} {l : List ByteArray} (h : l.all lineOk = true) : tPut [(nm, [])] nm l = ([(nm, l)], 0) := by
  unfold tPut; rw [if_neg (by rw [one_has]; simp), if_neg (by rw [h]; simp)]
  have : delT [(nm, ([] : List ByteArray))] nm = [] := by simp [delT]
  unfold putT; rw [this]; rfl
theorem one_inv {nm : ByteArray} {l : List ByteArray} {k : Nat} (hn : nameOk nm = true) (h : l.all lineOk = true) (hl : l.length ≤ k) : AppInv k 1 [(nm, l)] :=
  ⟨one_sor nm l, fun x hx => by rw [List.mem_singleton.1 hx]; exact ⟨hn, h⟩, fun x hx => by rw [List.mem_singleton.1 hx]; exact hl, Nat.le_refl _⟩
theorem lines_runs {nm : ByteArray} {l m : List ByteArray} {T : List File} (hS : Sor T) (hg : getT T nm = some l) (hn : nameOk nm = true) (ha : l.all lineOk = true) (hb : m.all lineOk = true) (hf : m.length ≤ 1048576) (hl : longB l m = false) :
    ∃ U, Runs T (linesT nm l m) U ∧ getT U = upd (getT T) nm (some m) := by
  rw [linesT_not hl]; exact comm_runs (commF_spec l m) hS hg hn ha hb hf
theorem lines_one {nm : ByteArray} {l m : List ByteArray} (hn : nameOk nm = true) (ha : l.all lineOk = true) (hb : m.all lineOk = true) (hf : m.length ≤ 1048576) (hl : longB l m = false) : Runs [(nm, l)] (linesT nm l m) [(nm, m)] := by
  obtain ⟨U, h1, h2⟩ := lines_runs (one_sor nm l) (one_get nm l) hn ha hb hf hl
  have e : U = [(nm, m)] := getT_ext (runs_sor h1 (one_sor nm l)) (one_sor nm m) fun k => by
    rw [h2]
    by_cases hk : k = nm
    · subst hk; rw [upd_at, one_get]
    · rw [upd_ne _ _ hk]
      have hk' : ¬ nm = k := fun e => hk e.symm
      simp [getT, hk']
  rw [← e]; exact h1
open Classical in
theorem runs_blocks {blk : ByteArray → List Prim} {v w : ByteArray → Option (List ByteArray)} : ∀ {names : List ByteArray}, names.Nodup →
    (∀ s ∈ names, ∀ M, Sor M → getT M s = v s → ∃ M', Runs M (blk s) M' ∧ getT M' = upd (getT M) s (w s)) →
    ∀ {M : List File}, Sor M → (∀ s ∈ names, getT M s = v s) → ∃ M', Runs M (names.flatMap blk) M' ∧ Sor M' ∧ ∀ x, getT M' x = if x ∈ names then w x else getT M x := by
  intro names
  induction names with
  | nil => intro _ _ M hM _; exact ⟨M, rfl, hM, fun x => by rw [if_neg (by simp)]⟩
  | cons s names ih =>
    intro hnd hb M hM hv
    obtain ⟨h1, h2⟩ := List.nodup_cons.1 hnd
    obtain ⟨M1, r1, g1⟩ := hb s (by simp) M hM (hv s (by simp))
    have hM1 := runs_sor r1 hM
    obtain ⟨M2, r2, hM2, g2⟩ := ih h2 (fun t ht => hb t (by simp [ht])) hM1 (fun t ht => by
      rw [g1, upd_ne _ _ (fun e => h1 (by rw [← e]; exact ht))]; exact hv t (by simp [ht]))
    refine ⟨M2, ?_, hM2, fun x => ?_⟩
    · rw [List.flatMap_cons]; exact runs_app.2 ⟨M1, r1, r2⟩
    · rw [g2 x, g1]
      by_cases hx : x ∈ names
      · rw [if_pos hx, if_pos (by simp [hx])]
      · rw [if_neg hx]
        by_cases e : x = s
        · subst e; rw [upd_at, if_pos (by simp)]
        · rw [upd_ne _ _ e, if_neg (by simp [e, hx])]
theorem keys_has {T : List File} {s : ByteArray} : s ∈ T.map (·.1) ↔ hasT T s = true := by
  rw [hasT_iff, List.mem_map]
theorem files_mem {T U : List File} {b : Bool} {s : ByteArray} : s ∈ filesT T U b ↔ hasT T s = true ∧ hasT U s = b := by
  unfold filesT
  rw [List.mem_filter, keys_has]
  cases hasT U s <;> cases b <;> simp
theorem files_nodup {T U : List File} {b : Bool} (hT : Sor T) : (filesT T U b).Nodup := List.Pairwise.filter _ hT.keys
theorem good_name {T : List File} (hG : Go.Sx.Good T) {s : ByteArray} (h : hasT T s = true) : nameOk s = true := by
  obtain ⟨x, hx, rfl⟩ := hasT_iff.1 h
  exact (hG x hx).1
theorem nil_all : ([] : List ByteArray).all lineOk = true := rfl
theorem right_rm {s : ByteArray} (h : nameOk s = true) : (pRm s).right = true := by
  unfold Prim.right; simp [pRm, h, e0, Prim.bare]
theorem right_ad {s : ByteArray} (h : nameOk s = true) : (pAd s).right = true := by
  unfold Prim.right; simp [pAd, h, e0, Prim.bare]
theorem trees_runs {T U : List File} (hT : Sor T) (hU : Sor U) (gT : Go.Sx.Good T) (gU : Go.Sx.Good U) (h : ¬ 200 < longest T) (k : ¬ 200 < longest U) : Runs T (treesT T U) U := by
  rw [treesT_no (by rw [short_wide hT h, short_wide hU k]; rfl)]
  have gone : ∀ s ∈ filesT T U false, ∀ M, Sor M → getT M s = getT T s → ∃ M', Runs M (goneT T s) M' ∧ getT M' = upd (getT M) s none := by
    intro s hs M hM hv
    obtain ⟨a1, a2⟩ := files_mem.1 hs
    have hn := good_name gT a1
    obtain ⟨M1, r1, g1⟩ := lines_runs (m := []) hM (hv.trans (hasT_yes a1)) hn (gT.get s) nil_all (by simp) (longB_two (short_get hT h s) (by simp))
    have hM1 := runs_sor r1 hM
    obtain ⟨M2, r2, g2⟩ := step_ran (p := pRm s) (g := upd (getT M1) s none) hM1 (right_rm hn) ((step2 rfl).2 ⟨by rw [g1]; exact upd_at _ _ _, rfl⟩)
    refine ⟨M2, runs_app.2 ⟨M1, r1, M2, r2, rfl⟩, ?_⟩
    rw [g2, g1]
    funext x
    by_cases e : x = s
    · subst e; rw [upd_at, upd_at]
    · rw [upd_ne _ _ e, upd_ne _ _ e, upd_ne _ _ e]
  have come : ∀ s ∈ filesT U T false, ∀ M, Sor M → getT M s = none → ∃ M', Runs M (comeT U s) M' ∧ getT M' = upd (getT M) s (getT U s) := by
    intro s hs M hM hv
    obtain ⟨a1, a2⟩ := files_mem.1 hs
    have hn := good_name gU a1
    obtain ⟨M1, r1, g1⟩ := step_ran (p := pAd s) (g := upd (getT M) s (some [])) hM (right_ad hn) ((step1 rfl).2 ⟨hv, rfl⟩)
    have hM1 := ran_sor r1 hM
    obtain ⟨M2, r2, g2⟩ := lines_runs (l := []) (m := getL U s) (T := M1) (nm := s) hM1 (by rw [g1]; exact upd_at _ _ _) hn nil_all (gU.get s) (by have := short_get hU k s; omega) (longB_two (by simp) (short_get hU k s))
    refine ⟨M2, ⟨M1, r1, r2⟩, ?_⟩
    rw [g2, g1, hasT_yes a1]
    funext x
    by_cases e : x = s
    · subst e; rw [upd_at, upd_at]
    · rw [upd_ne _ _ e, upd_ne _ _ e, upd_ne _ _ e]
  have both : ∀ s ∈ filesT T U true, ∀ M, Sor M → getT M s = getT T s → ∃ M', Runs M (bothT T U s) M' ∧ getT M' = upd (getT M) s (getT U s) := by
    intro s hs M hM hv
    obtain ⟨a1, a2⟩ := files_mem.1 hs
    rw [hasT_yes a2]
    exact lines_runs hM (hv.trans (hasT_yes a1)) (good_name gT a1) (gT.get s) (gU.get s) (by have := short_get hU k s; omega) (longB_two (short_get hT h s) (short_get hU k s))
  obtain ⟨M1, r1, s1, g1⟩ := runs_blocks (w := fun _ => none) (files_nodup hT) gone hT (fun _ _ => rfl)
  obtain ⟨M2, r2, s2, g2⟩ := runs_blocks (v := fun _ => none) (w := getT U) (files_nodup hU) come s1 (fun s hs => by
    obtain ⟨a1, a2⟩ := files_mem.1 hs
    rw [g1, if_neg (fun e => by rw [(files_mem.1 e).1] at a2; cases a2)]; exact hasT_no a2)
  obtain ⟨M3, r3, s3, g3⟩ := runs_blocks (v := getT T) (w := getT U) (files_nodup hT) both s2 (fun s hs => by
    obtain ⟨a1, a2⟩ := files_mem.1 hs
    rw [g2, if_neg (fun e => by rw [(files_mem.1 e).2] at a1; cases a1), g1, if_neg (fun e => by rw [(files_mem.1 e).2] at a2; cases a2)])
  have e : M3 = U := getT_ext s3 hU fun x => by
    rw [g3, g2, g1]
    by_cases c1 : hasT T x = true
    · by_cases c2 : hasT U x = true
      · rw [if_pos (files_mem.2 ⟨c1, c2⟩)]
      · have c2' : hasT U x = false := by simpa using c2
        rw [if_neg (fun e => c2 (files_mem.1 e).2), if_neg (fun e => c2 (files_mem.1 e).1), if_pos (files_mem.2 ⟨c1, c2'⟩), hasT_no c2']
    · have c1' : hasT T x = false := by simpa using c1
      rw [if_neg (fun e => c1 (files_mem.1 e).1)]
      by_cases c2 : hasT U x = true
      · rw [if_pos (files_mem.2 ⟨c2, c1'⟩)]
      · have c2' : hasT U x = false := by simpa using c2
        rw [if_neg (fun e => c2 (files_mem.1 e).1), if_neg (fun e => c1 (files_mem.1 e).1), hasT_no c1', hasT_no c2']
  have r := runs_app.2 ⟨M2, runs_app.2 ⟨M1, r1, r2⟩, r3⟩
  rwa [e] at r
theorem trees_same {T : List File} (hT : Sor T) : treesT T T = [] := by
  cases h : (wideB T || wideB T) with
  | true => exact treesT_yes h
  | false =>
    rw [treesT_no h]
    have e1 : filesT T T false = [] := List.eq_nil_iff_forall_not_mem.2 fun s hs => by
      obtain ⟨a, b⟩ := files_mem.1 hs; rw [a] at b; cases b
    have e2 : (filesT T T true).flatMap (bothT T T) = [] := by
      rw [List.flatMap_eq_nil_iff]
      intro s hs
      show linesT s (getL T s) (getL T s) = []
      cases hl : longB (getL T s) (getL T s) with
      | true => exact linesT_long hl
      | false => exact lines_same hl
    rw [e1, e2]; rfl
end Go.Proofs.YtdbiillompeclaaGreatDoor.X

end
section
set_option linter.unusedVariables false
set_option linter.unusedSimpArgs false
namespace Go.Proofs.YtdbiillompeclaaGreatDoor.X
open Go Go.RowKit Go.Proofs Go.Sx
attribute [local irreducible] slA isA box row


set_option maxRecDepth 100000 in
theorem c_primCloneO (p : Prim) (y : Rp.Lay Prim) (hp : p.fit) : Con Tryz.prog 48 [sv p y] [] (Rp.asn p y) (Rp.Lay Prim) (fun z => sv p z) (fun z => [row 9 z.1.1 z.1.2 p.old, row 9 z.2.1 z.2.2 p.new]) (fun _ => []) := by
  refine con Tryz.func48 rfl Tryz.ntmps48 rfl ?_
  intro M0 F0 w0
  refine cs ?_
  refine cr ?_
  refine ls (o_box rfl rfl rfl) ?_
  refine le ?_; intro b1
  refine ls (o_alloc Tryz.zeroValue39 rfl rfl) ?_
  refine le ?_; intro b2
  refine ln ?_
  refine nthen ?_
  refine cs ?_
  refine cd [2, 5, 7, 9] [(1, b1, 4, _), (4, b1, 5, _)] TryzX.mixed (TOk.t (isBoxS (by repeat' constructor) (k := 1) (by repeat (first | exact Cut.d | apply Cut.t | apply Cut.s))) (TOk.t (isBoxS (by repeat' constructor) (k := 1) (by repeat (first | exact Cut.d | apply Cut.t | apply Cut.s))) TOk.d)) ?_
  refine tk 0 rfl (by kernel_rfl) (fun _ _ _ h => h) gnone (TTany _) (p_fa fa39_4 rfl) rfl ?_
  refine tk 1 rfl (by kernel_rfl) (fun _ _ _ h => h) gnone (TTat (List.Mem.head _)) (p_ld Tryz.isAgg37 rfl) rfl ?_
  refine tk 3 rfl (by kernel_rfl) (fun _ _ _ h => h) gnone (TTany _) (p_fa fa39_5 rfl) rfl ?_
  refine tk 4 rfl (by kernel_rfl) (fun _ _ _ h => h) gnone (TTat (List.Mem.tail _ (List.Mem.head _))) (p_ld Tryz.isAgg37 rfl) rfl ?_
  refine df 2 (by kernel_rfl) ?_
  refine doR rfl (o_call (is := []) Tryz.call74 (c_sCloneR p.old _ _ hp.o) rfl rfl (by repeat' (first | constructor | apply Sub.suf)) rfl) (TOk.x (by kernel_rfl) (TOk.t (isBoxE fun _ => isBoxS (by repeat' constructor) (k := 1) (by repeat (first | exact Cut.d | apply Cut.t | apply Cut.s))) TOk.d)) ?_
  refine ea ?_; intro y1
  refine tk 6 rfl (by kernel_rfl) (fun _ _ _ h => h) gnone (TTany _) (p_fa fa39_4 rfl) rfl ?_
  refine df 5 (by kernel_rfl) ?_
  refine doR rfl (o_call (is := []) Tryz.call74 (c_sCloneR p.new _ _ hp.n) rfl rfl (by repeat' (first | constructor | apply Sub.suf)) rfl) (TOk.x (by kernel_rfl) (TOk.x (by kernel_rfl) TOk.d)) ?_
  refine ea ?_; intro y2
  refine df 7 (by kernel_rfl) ?_
  refine doR rfl (o_st rfl Tryz.sizeOf37 rfl rfl rfl rfl rfl (by repeat' constructor) (by repeat' constructor) (by repeat' constructor)) (TOk.x (by kernel_rfl) (TOk.x (by kernel_rfl) TOk.d)) ?_
  refine tk 8 rfl (by kernel_rfl) (fun _ _ _ h => h) gnone (TTany _) (p_fa fa39_5 rfl) rfl ?_
  refine df 9 (by kernel_rfl) ?_
  refine doR rfl (o_st rfl Tryz.sizeOf37 rfl rfl rfl rfl rfl (by repeat' constructor) (by repeat' constructor) (by repeat' constructor)) (TOk.x (by kernel_rfl) (TOk.x (by kernel_rfl) TOk.d)) ?_
  refine dn (by kernel_rfl) ?_
  refine nthen ?_
  refine cs ?_
  refine cr ?_
  refine ls (o_ldw Tryz.isAgg39 Tryz.sizeOf39 rfl (by repeat' constructor) (by rfl) rfl) ?_
  refine ls (o_st rfl Tryz.sizeOf39 rfl rfl rfl rfl rfl (by repeat' constructor) (by repeat' constructor) (by repeat' constructor)) ?_
  refine ln ?_
  refine nthen ?_
  refine cret ?_
  refine xret (fun _ _ h => h) ?_
  refine rret (is := [1, 0]) (y1, y2) (Or.inl rfl) (Res.c rfl Tryz.isAgg39 Tryz.sizeOf39 (by repeat' constructor) (by rfl) Res.d) (rfl) rfl (by repeat' (first | constructor | apply Sub.suf))

set_option maxRecDepth 100000 in
theorem c_primInvertO (p : Prim) (y : Rp.Lay Prim) (hp : p.fit) (hk : p.kind = 0) : Con Tryz.prog 49 [sv p y] [] (Rp.asn p y) (Rp.Lay Prim) (fun z => sv { p with old := p.new, new := p.old } z) (fun z => [row 9 z.1.1 z.1.2 p.new, row 9 z.2.1 z.2.2 p.old]) (fun _ => []) := by
  refine con Tryz.func49 rfl Tryz.ntmps49 rfl ?_
  intro M0 F0 w0
  refine cs ?_
  refine cr ?_
  refine ls (o_box rfl rfl rfl) ?_
  refine le ?_; intro b1
  refine ls (o_alloc Tryz.zeroValue39 rfl rfl) ?_
  refine le ?_; intro b2
  refine ln ?_
  refine nthen ?_
  refine cs ?_
  refine cr ?_
  refine ls (o_ldw Tryz.isAgg39 Tryz.sizeOf39 rfl (by repeat' constructor) (by rfl) rfl) ?_
  refine ls (o_call (is := []) Tryz.call48 (c_primCloneO p y hp) rfl rfl (by repeat' (first | constructor | apply Sub.suf)) rfl) ?_
  refine le ?_; intro y1
  refine ls (o_st rfl Tryz.sizeOf39 rfl rfl rfl rfl rfl (by repeat' constructor) (by repeat' constructor) (by repeat' constructor)) ?_
  refine ln ?_
  refine nthen ?_
  refine cs ?_
  refine cs ?_
  refine cr ?_
  refine ls (op (p_fa fa39_0 rfl) rfl) ?_
  refine ls (o_ld Tryz.isAgg3 rfl (by repeat' constructor) (by repeat' constructor) rfl) ?_
  refine ln ?_
  refine nthen ?_
  refine cb ?_
  refine cs ?_
  refine cr ?_
  refine ls (op (p_icmp rfl rfl rfl) rfl) ?_
  refine fixL (congrArg Value.bool (decide_eq_true hk)) ?_
  refine ls (op (p_asg rfl) rfl) ?_
  refine ln ?_
  refine nthen ?_
  refine cc rfl (fun h => ?_) (fun h => by cases h)
  refine cr ?_
  refine ls (op (p_fa fa39_5 rfl) rfl) ?_
  refine ls (o_ld Tryz.isAgg37 rfl (by repeat' constructor) (by repeat' constructor) rfl) ?_
  refine ls (op (p_fa fa39_4 rfl) rfl) ?_
  refine ls (o_ld Tryz.isAgg37 rfl (by repeat' constructor) (by repeat' constructor) rfl) ?_
  refine ls (op (p_fa fa39_4 rfl) rfl) ?_
  refine ls (o_st rfl Tryz.sizeOf37 rfl rfl rfl rfl rfl (by repeat' constructor) (by repeat' constructor) (by repeat' constructor)) ?_
  refine ls (op (p_fa fa39_5 rfl) rfl) ?_
  refine ls (o_st rfl Tryz.sizeOf37 rfl rfl rfl rfl rfl (by repeat' constructor) (by repeat' constructor) (by repeat' constructor)) ?_
  refine ln ?_
  refine nblock ?_
  refine nthen ?_
  refine cs ?_
  refine cr ?_
  refine ls (o_ldw Tryz.isAgg39 Tryz.sizeOf39 rfl (by repeat' constructor) (by rfl) rfl) ?_
  refine ls (o_st rfl Tryz.sizeOf39 rfl rfl rfl rfl rfl (by repeat' constructor) (by repeat' constructor) (by repeat' constructor)) ?_
  refine ln ?_
  refine nthen ?_
  refine cret ?_
  refine xret (fun _ _ h => h) ?_
  refine rret (is := [1, 0]) (y1.2, y1.1) (Or.inl rfl) (Res.c rfl Tryz.isAgg39 Tryz.sizeOf39 (by repeat' constructor) (by rfl) Res.d) (rfl) rfl (by repeat' (first | constructor | apply Sub.suf))

theorem c_primCloneB (p : Prim) (y : Rp.Lay Prim) (hp : p.fit) : Con Tryz.prog 48 [sv p y] [row 9 y.1.1 y.1.2 p.old, row 9 y.2.1 y.2.2 p.new] [] (Rp.Lay Prim) (fun z => sv p z) (fun z => [row 9 y.1.1 y.1.2 p.old, row 9 y.2.1 y.2.2 p.new] ++ [row 9 z.1.1 z.1.2 p.old, row 9 z.2.1 z.2.2 p.new]) (fun _ => []) :=
  borrowL (freeze2 (Γ' := [slA y.1.1 p.old, slA y.2.1 p.new]) (by repeat' (first | constructor | apply Sub.suf))) (c_primCloneO p y hp) (fun _ => rows_free)
theorem c_primInvertB (p : Prim) (y : Rp.Lay Prim) (hp : p.fit) (hk : p.kind = 0) : Con Tryz.prog 49 [sv p y] [row 9 y.1.1 y.1.2 p.old, row 9 y.2.1 y.2.2 p.new] [] (Rp.Lay Prim) (fun z => sv { p with old := p.new, new := p.old } z) (fun z => [row 9 y.1.1 y.1.2 p.old, row 9 y.2.1 y.2.2 p.new] ++ [row 9 z.1.1 z.1.2 p.new, row 9 z.2.1 z.2.2 p.old]) (fun _ => []) :=
  borrowL (freeze2 (Γ' := [slA y.1.1 p.old, slA y.2.1 p.new]) (by repeat' (first | constructor | apply Sub.suf))) (c_primInvertO p y hp hk) (fun _ => rows_free)
theorem c_refSameB (p q : Prim) (yp yq : Rp.Lay Prim) (hp : p.fit) : Con Tryz.prog 50 [sv p yp, sv q yq] [row 9 yp.1.1 yp.1.2 p.old, row 9 yp.2.1 yp.2.2 p.new] (Rp.asn q yq) Unit (fun _ => .bool (decide (p = q))) (fun _ => [row 9 yp.1.1 yp.1.2 p.old, row 9 yp.2.1 yp.2.2 p.new] ++ []) (fun _ => []) :=
  borrowL (freeze2 (Γ := [slA yq.1.1 q.old, slA yq.2.1 q.new]) (Γ' := [slA yp.1.1 p.old, slA yp.2.1 p.new, slA yq.1.1 q.old, slA yq.2.1 q.new]) (by repeat' (first | constructor | apply Sub.suf))) (c_refSame p q yp yq hp) (fun _ z hz => by cases hz)
theorem c_primRightB (p : Prim) (y : Rp.Lay Prim) (hp : p.fit) : Con Tryz.prog 101 [sv p y] [row 9 y.1.1 y.1.2 p.old, row 9 y.2.1 y.2.2 p.new] [] Unit (fun _ => .bool p.right) (fun _ => [row 9 y.1.1 y.1.2 p.old, row 9 y.2.1 y.2.2 p.new] ++ []) (fun _ => []) :=
  borrowL (freeze2 (Γ' := [slA y.1.1 p.old, slA y.2.1 p.new]) (by repeat' (first | constructor | apply Sub.suf))) (c_primRight p y hp) (fun _ z hz => by cases hz)

theorem c_lineSpliceB (p : Prim) (y : Rp.Lay Prim) (l : List ByteArray) (A : Option Addr) (c : Nat) (hl : l.length ≤ 2000000) (hp : p.fit) (hw : l.length + p.new.length ≤ 2000000) (hc : l.length ≤ c) : Con Tryz.prog 139 [.slice A l.length c, .int .i64 p.pos, .slice y.1.1 p.old.length y.1.2, .slice y.2.1 p.new.length y.2.2] [row 9 y.1.1 y.1.2 p.old, row 9 y.2.1 y.2.2 p.new] [slA A l] (Option Addr × Nat) (fun z => .tuple #[.slice z.1 (splT l p.pos p.old p.new).length z.2, .bool (standsB l p.pos p.old)]) (fun z => [row 9 y.1.1 y.1.2 p.old, row 9 y.2.1 y.2.2 p.new] ++ [row 9 z.1 z.2 (splT l p.pos p.old p.new)]) (fun _ => []) :=
  borrowL (freeze2 (Γ' := [slA A l, slA y.1.1 p.old, slA y.2.1 p.new]) (by repeat' (first | constructor | apply Sub.suf))) (c_lineSplice l p.old p.new A y.1.1 y.2.1 c y.1.2 y.2.2 p.pos hl hp.o hw hc) (fun _ z hz => by rw [List.mem_singleton.1 hz]; exact row_free)

set_option maxRecDepth 100000 in
theorem c_pHunkB (p b : Nat) (T : List File) (pr : Prim) (y : Rp.Lay Prim) (hp : pr.fit) (hT : Tfit T) (hb : ∀ u, (getL T u).length + pr.new.length ≤ 2000000) : Con Tryz.prog 102 [.pointer (some ⟨p, 0, none⟩), sv pr y] [box p 120 [.map (some b)], tr b T, row 9 y.1.1 y.1.2 pr.old, row 9 y.2.1 y.2.2 pr.new] [] {q : List File × Int // q = hunkT T pr} (fun q => .int .i64 q.1.2) (fun q => [box p 120 [.map (some b)], tr b q.1.1, row 9 y.1.1 y.1.2 pr.old, row 9 y.2.1 y.2.2 pr.new]) (fun _ => []) := by
  refine con Tryz.func102 rfl Tryz.ntmps102 rfl ?_
  intro M0 F0 w0
  refine cs ?_
  refine cr ?_
  refine ls (o_box rfl rfl rfl) ?_
  refine le ?_; intro b3
  refine ls (op (p_asg rfl) rfl) ?_
  refine ln ?_
  refine nthen ?_
  refine cs ?_
  refine cr ?_
  refine ls (op (p_move rfl) rfl) ?_
  refine ls (op (p_fa fa39_1 rfl) rfl) ?_
  refine ls (o_ld Tryz.isAgg9 rfl (by repeat' constructor) (by repeat' constructor) rfl) ?_
  refine ls (o_call (is := [1, 1]) Tryz.call28 (c_tGet p b T hT pr.name) rfl rfl (by repeat' (first | constructor | apply Sub.suf)) rfl) ?_
  refine le ?_; rintro ⟨A1, c1⟩
  refine lpure (St.rowcap (α := ByteArray) (e := 9) (by repeat' constructor)) ?_
  intro hcap
  refine lmono (fun a w h => freezeN (i := 0) rfl h) ?_
  refine ls (op (p_move rfl) rfl) ?_
  refine ls (op (p_ext rfl (by repeat' constructor)) rfl) ?_
  refine ls (op (p_ext rfl (by repeat' constructor)) rfl) ?_
  refine ls (op (p_asg rfl) rfl) ?_
  refine ls (op (p_asg rfl) rfl) ?_
  refine ln ?_
  refine nthen ?_
  refine cs ?_
  refine cr ?_
  refine ls (op (p_move rfl) rfl) ?_
  refine ls (op (p_fa fa39_3 rfl) rfl) ?_
  refine ls (o_ld Tryz.isAgg3 rfl (by repeat' constructor) (by repeat' constructor) rfl) ?_
  refine ls (op (p_fa fa39_4 rfl) rfl) ?_
  refine ls (o_ld Tryz.isAgg37 rfl (by repeat' constructor) (by repeat' constructor) rfl) ?_
  refine ls (op (p_fa fa39_5 rfl) rfl) ?_
  refine ls (o_ld Tryz.isAgg37 rfl (by repeat' constructor) (by repeat' constructor) rfl) ?_
  refine ls (o_call (is := [3, 3]) Tryz.call139 (c_lineSpliceB pr y (getL T pr.name) A1 c1 (hT.get _) hp (hb _) hcap) rfl rfl (by repeat' (first | constructor | apply Sub.suf)) rfl) ?_
  refine le ?_; rintro ⟨A2, c2⟩
  refine lmono (fun a w h => freezeN (i := 2) rfl h) ?_
  refine ls (op (p_move rfl) rfl) ?_
  refine ls (op (p_ext rfl (by repeat' constructor)) rfl) ?_
  refine ls (op (p_ext rfl (by repeat' constructor)) rfl) ?_
  refine ls (op (p_asg rfl) rfl) ?_
  refine ls (op (p_asg rfl) rfl) ?_
  refine ln ?_
  refine nthen ?_
  refine cs ?_
  refine cs ?_
  refine cr ?_
  refine ls (op (p_move rfl) rfl) ?_
  refine ls (op (p_not rfl) rfl) ?_
  refine ls (op (p_move rfl) rfl) ?_
  refine splitL 29 rfl ?_ ?_
  · intro h29
    have hno : hasT T pr.name = false := by simpa using h29
    refine lskip rfl rfl rfl rfl rfl ?_
    refine lskip rfl rfl rfl rfl rfl ?_
    refine ls (op (p_pickt rfl rfl) rfl) ?_
    refine ln ?_
    refine nthen ?_
    refine cc rfl (fun h => ?_) (fun h => by cases h)
    refine cs ?_
    refine cr ?_
    refine ls (op (p_asg rfl) rfl) ?_
    refine ln ?_
    refine nthen ?_
    refine cret ?_
    refine xret (fun _ _ h => h) ?_
    refine rret (is := [2, 2, 0, 0]) ⟨(T, 31), by simp [hunkT, hno]⟩ (Or.inl rfl) (Res.t rfl Res.d) (rfl) rfl (by repeat' (first | constructor | apply Sub.suf))
  · intro h29
    have hyes : hasT T pr.name = true := by simpa using h29
    refine lwant rfl rfl rfl rfl (op (p_move rfl) rfl) ?_
    refine lwant rfl rfl rfl rfl (op (p_not rfl) rfl) ?_
    refine ls (op (p_pickf rfl rfl) rfl) ?_
    refine ln ?_
    refine nthen ?_
    refine cc rfl ?_ ?_
    · intro h32
      have hst : standsB (getL T pr.name) pr.pos pr.old = false := by simpa using h32
      refine cs ?_
      refine cr ?_
      refine ls (op (p_asg rfl) rfl) ?_
      refine ln ?_
      refine nthen ?_
      refine cret ?_
      refine xret (fun _ _ h => h) ?_
      refine rret (is := [2, 2, 0, 0]) ⟨(T, 31), by simp [hunkT, hst]⟩ (Or.inl rfl) (Res.t rfl Res.d) (rfl) rfl (by repeat' (first | constructor | apply Sub.suf))
    · intro h32
      have hst : standsB (getL T pr.name) pr.pos pr.old = true := by simpa using h32
      refine cskip ?_
      refine nthen ?_
      refine cs ?_
      refine cr ?_
      refine ls (op (p_move rfl) rfl) ?_
      refine ls (op (p_fa fa39_1 rfl) rfl) ?_
      refine ls (o_ld Tryz.isAgg9 rfl (by repeat' constructor) (by repeat' constructor) rfl) ?_
      refine ls (op (p_move rfl) rfl) ?_
      refine ls (o_call (is := [2, 2]) Tryz.call26 (c_tPut p b T pr.name (splT (getL T pr.name) pr.pos pr.old pr.new) A2 c2 (Nat.le_trans splT_len (hb _))) rfl rfl (by repeat' (first | constructor | apply Sub.suf)) rfl) ?_
      refine le ?_; rintro ⟨⟨T1, e1⟩, hq⟩
      refine ls (o_call (is := []) Tryz.call103 (c_pFits e1) rfl rfl (by repeat' (first | constructor | apply Sub.suf)) rfl) ?_
      refine le ?_; intro x38
      refine ls (op (p_asg rfl) rfl) ?_
      refine ln ?_
      refine nthen ?_
      refine cret ?_
      refine xret (fun _ _ h => h) ?_
      refine rret (is := [0, 0, 0, 0]) ⟨(T1, if e1 = 0 then 0 else 31), by unfold hunkT; rw [if_neg (show ¬ (hasT T pr.name = false ∨ standsB (getL T pr.name) pr.pos pr.old = false) by simp [hyes, hst]), ← hq]; rfl⟩ (Or.inl rfl) (Res.t rfl Res.d) (rfl) rfl (by repeat' (first | constructor | apply Sub.suf))

set_option maxRecDepth 100000 in
theorem c_pApplyB (p b : Nat) (T : List File) (pr : Prim) (y : Rp.Lay Prim) (hp : pr.fit) (hT : Tfit T) (hb : ∀ u, (getL T u).length + pr.new.length ≤ 2000000) (hr : pr.right = true) (k0 : pr.kind = 0) : Con Tryz.prog 51 [.pointer (some ⟨p, 0, none⟩), sv pr y] [box p 120 [.map (some b)], tr b T, row 9 y.1.1 y.1.2 pr.old, row 9 y.2.1 y.2.2 pr.new] [] {q : List File × Int // q = applyT T pr} (fun q => .int .i64 q.1.2) (fun q => [box p 120 [.map (some b)], tr b q.1.1, row 9 y.1.1 y.1.2 pr.old, row 9 y.2.1 y.2.2 pr.new]) (fun _ => []) := by
  refine con Tryz.func51 rfl Tryz.ntmps51 rfl ?_
  intro M0 F0 w0
  refine cs ?_
  refine cr ?_
  refine ls (o_box rfl rfl rfl) ?_
  refine le ?_; intro b3
  refine ls (op (p_asg rfl) rfl) ?_
  refine ln ?_
  refine nthen ?_
  refine cs ?_
  refine cb ?_
  refine cs ?_
  refine cr ?_
  refine ls (o_ldw Tryz.isAgg39 Tryz.sizeOf39 rfl (by repeat' constructor) (by rfl) rfl) ?_
  refine ls (o_call (is := [3, 3]) Tryz.call101 (c_primRightB pr y hp) rfl rfl (by repeat' (first | constructor | apply Sub.suf)) rfl) ?_
  refine le ?_; intro x7
  refine fixL (congrArg Value.bool hr) ?_
  refine ls (op (p_not rfl) rfl) ?_
  refine ls (op (p_asg rfl) rfl) ?_
  refine ln ?_
  refine nthen ?_
  refine cc rfl (fun h => by cases h) (fun h => ?_)
  refine cs ?_
  refine cr ?_
  refine ls (op (p_fa fa39_0 rfl) rfl) ?_
  refine ls (o_ld Tryz.isAgg3 rfl (by repeat' constructor) (by repeat' constructor) rfl) ?_
  refine ls (op (p_icmp rfl rfl rfl) rfl) ?_
  refine fixL (congrArg Value.bool (decide_eq_true k0)) ?_
  refine ls (op (p_asg rfl) rfl) ?_
  refine ln ?_
  refine nthen ?_
  refine cc rfl (fun h => ?_) (fun h => by cases h)
  refine cs ?_
  refine cr ?_
  refine ls (op (p_move rfl) rfl) ?_
  refine ls (o_ldw Tryz.isAgg39 Tryz.sizeOf39 rfl (by repeat' constructor) (by rfl) rfl) ?_
  refine ls (o_call (is := [3, 3, 0, 0]) Tryz.call102 (c_pHunkB p b T pr y hp hT hb) rfl rfl (by repeat' (first | constructor | apply Sub.suf)) rfl) ?_
  refine le ?_; rintro ⟨⟨T1, e1⟩, hq⟩
  refine ls (op (p_asg rfl) rfl) ?_
  refine ln ?_
  refine nthen ?_
  refine cret ?_
  refine xret (fun _ _ h => h) ?_
  refine rret (is := [0, 0, 0, 0]) ⟨(T1, e1), by unfold applyT; rw [if_neg (by rw [hr]; decide), if_pos k0]; exact hq⟩ (Or.inl rfl) (Res.t rfl Res.d) (rfl) rfl (by repeat' (first | constructor | apply Sub.suf))

end Go.Proofs.YtdbiillompeclaaGreatDoor.X

end
section
set_option linter.unusedVariables false
set_option linter.unusedSimpArgs false
namespace Go.Sx
open Go Go.RowKit Go.Sort
def tabA (P : Program) : Asn where
  p M w := ∃ g, P.globalNamed "internal/strconv.uint64pow10" = some g ∧ g < w.heap.size ∧ ¬ M g ∧ Lib.TabIs P w "internal/strconv.uint64pow10" .u64 Lib.pow10Tab
  st := by
    rintro M M' w w' ⟨g, h1, h2, h3, h4⟩ hb hm hs
    refine ⟨g, h1, Nat.lt_of_lt_of_le h2 hs, fun h => h3 (hm g h2 h), ?_⟩
    unfold Lib.TabIs World.var? at h4 ⊢
    rw [h1] at h4 ⊢
    simp only [Option.bind_some] at h4 ⊢
    rw [hb g h2 h3]; exact h4
theorem tabIs_of_mem {P : Program} {W : World} {name : String} {k : IntKind} {zs : List Int} {g : Nat} {t e : TypeId} {n : Nat}
    (hg : P.globalNamed name = some g) (hty : (P.globals[g]?).map (·.type) = some t) (ht : P.underlying t = some (.array n e)) (he : P.underlying e = some (.int k)) (hce : P.cellsOf e = 1) (hct : P.cellsOf t = n) :
    ∀ {l : List (String × DataW Unit)} {ps : List MemPlace}, DataW.LaidVars P W l ps → (name, Lib.tabData k zs) ∈ l → Lib.TabIs P W name k zs
  | [], _, _, h => by cases h
  | (n0, d0) :: r, ps, hv, h => by
    obtain ⟨g', t', cs, fuel, p, q, hg', ht', hvar, hd, hr, _⟩ := hv
    rcases List.mem_cons.1 h with e0 | h
    · obtain ⟨rfl, rfl⟩ := Prod.mk.inj e0
      obtain rfl := Option.some.inj (hg.symm.trans hg')
      obtain rfl := Option.some.inj (hty.symm.trans ht')
      unfold Lib.TabIs
      rw [hvar, ← Lib.cells_of_tab ht he hce hct hd]
    · exact tabIs_of_mem hg hty ht he hce hct hr h
theorem tabA_of {P : Program} {w : World} {g : Nat} (hg : P.globalNamed "internal/strconv.uint64pow10" = some g) (ht : Lib.TabIs P w "internal/strconv.uint64pow10" .u64 Lib.pow10Tab) : (tabA P).p (fun _ => False) w := by
  refine ⟨g, hg, ?_, fun h => h, ht⟩
  unfold Lib.TabIs World.var? at ht
  rw [hg] at ht
  simp only [Option.bind_some] at ht
  by_cases h : g < w.heap.size
  · exact h
  · rw [Array.getElem?_eq_none (by omega)] at ht
    cases ht
theorem con_itoa {P : Program} {f : FuncId} (i : Nat) (hi : i ≤ 9223372036854775807)
    (h : ∀ (n : Int), -9223372036854775808 ≤ n → n ≤ 9223372036854775807 → ∀ w, Lib.TabIs P w "internal/strconv.uint64pow10" .u64 Lib.pow10Tab → Calls P f #[.int .i64 n] w fun e w' => e = .returned (.string ⟨(Lib.itoa n).toArray⟩) ∧ ∃ k os, w' = grow (w.drewN k) os) :
    Con P f [.int .i64 (i : Int)] [] [tabA P] Unit (fun _ => .string (toB (Lib.decDigits i))) (fun _ => []) (fun _ => []) := by
  refine con_below fun M0 w hga => ?_
  obtain ⟨g, _, _, _, ht⟩ := hga _ (List.mem_singleton_self _)
  refine (h (i : Int) (by omega) (by omega) w ht).mono ?_
  rintro e w' ⟨rfl, k, os, rfl⟩
  refine ⟨?_, ⟨rfl, rfl, rfl, by simp, fun b hb => ?_⟩⟩
  · unfold Lib.itoa; rw [if_neg (by omega)]; rfl
  · rw [heap_grow_old _ _ (by simpa using hb)]; rfl
end Go.Sx

end
section
set_option linter.unusedVariables false
set_option linter.unusedSimpArgs false
namespace Go.Sx
open Go Go.RowKit
/-! A tree's text tells it from all others. -/
theorem sepU {x : UInt8} : ∀ {a b r s : List UInt8}, x ∉ a → x ∉ b → a ++ x :: r = b ++ x :: s → a = b ∧ r = s
  | [], [], r, s, _, _, h => ⟨rfl, (List.cons.inj h).2⟩
  | [], y :: b, r, s, _, hb, h => absurd (by rw [(List.cons.inj h).1]; simp) hb
  | y :: a, [], r, s, ha, _, h => absurd (by rw [← (List.cons.inj h).1]; simp) ha
  | y :: a, z :: b, r, s, ha, hb, h => by
    obtain ⟨h1, h2⟩ := List.cons.inj h
    obtain ⟨h3, h4⟩ := sepU (fun h => ha (List.mem_cons_of_mem _ h)) (fun h => hb (List.mem_cons_of_mem _ h)) h2
    exact ⟨by rw [h1, h3], h4⟩
def decV (l : List UInt8) : Nat := l.foldl (fun n b => n * 10 + (b.toNat - 48)) 0
theorem decV_dec (u : Nat) : decV (Lib.decDigits u) = u := by
  induction u using Nat.strongRecOn with
  | _ u ih =>
    by_cases h : u < 10
    · rw [Lib.decDigits, dif_pos h]
      have : (UInt8.ofNat (48 + u)).toNat = 48 + u := by rw [UInt8.toNat_ofNat']; omega
      unfold decV
      rw [List.foldl_cons, List.foldl_nil, this]; omega
    · rw [Lib.decDigits, dif_neg h]
      have : (UInt8.ofNat (48 + u % 10)).toNat = 48 + u % 10 := by rw [UInt8.toNat_ofNat']; omega
      have ih := ih (u / 10) (by omega)
      unfold decV at ih ⊢
      rw [List.foldl_append, ih, List.foldl_cons, List.foldl_nil, this]; omega
theorem dec_no (u : Nat) : (10 : UInt8) ∉ Lib.decDigits u := by
  induction u using Nat.strongRecOn with
  | _ u ih =>
    have key : ∀ v, v < 10 → (10 : UInt8) ≠ UInt8.ofNat (48 + v) := fun v hv e => by
      have := congrArg UInt8.toNat e
      rw [UInt8.toNat_ofNat'] at this
      have h10 : (10 : UInt8).toNat = 10 := rfl
      omega
    by_cases h : u < 10
    · rw [Lib.decDigits, dif_pos h, List.mem_singleton]; exact key u h
    · rw [Lib.decDigits, dif_neg h, List.mem_append, List.mem_singleton]
      rintro (h1 | h1)
      · exact ih _ (by omega) h1
      · exact key _ (by omega) h1
theorem name_no {k : ByteArray} (h : nameOk k = true) : (32 : UInt8) ∉ ofB k := fun hm => by
  unfold nameOk at h
  simp only [Bool.and_eq_true, List.all_eq_true] at h
  have := h.2 _ hm
  revert this; decide
theorem line_no {s : ByteArray} (h : lineOk s = true) : (10 : UInt8) ∉ ofB s := fun hm => by
  unfold lineOk at h
  simp only [Bool.and_eq_true, Bool.not_eq_true', ← Bool.not_eq_true] at h
  exact h.2 (by simpa using hm)
theorem lineT_inj : ∀ {l m : List ByteArray} {r s : List UInt8}, l.length = m.length → l.all lineOk = true → m.all lineOk = true → lineT l ++ r = lineT m ++ s → l = m ∧ r = s
  | [], [], r, s, _, _, _, h => ⟨rfl, h⟩
  | x :: l, y :: m, r, s, hl, h1, h2, h => by
    simp only [List.all_cons, Bool.and_eq_true] at h1 h2
    have e : ∀ (z : ByteArray) (n : List ByteArray) (t : List UInt8), lineT (z :: n) ++ t = ofB z ++ 10 :: (lineT n ++ t) := fun z n t => by simp [lineT]
    rw [e, e] at h
    obtain ⟨h3, h4⟩ := sepU (line_no h1.1) (line_no h2.1) h
    obtain ⟨h5, h6⟩ := lineT_inj (by simpa using hl) h1.2 h2.2 h4
    exact ⟨by rw [ofB_inj h3, h5], h6⟩
theorem textT_inj : ∀ {T U : List File}, Good T → Good U → textT T = textT U → T = U
  | [], [], _, _, _ => rfl
  | [], y :: U, _, _, h => by
    have := congrArg List.length h
    simp only [textT, fileT, List.flatMap_cons, List.length_append, List.flatMap_nil, List.length_nil, List.length_singleton] at this
    omega
  | x :: T, [], _, _, h => by
    have := congrArg List.length h
    simp only [textT, fileT, List.flatMap_cons, List.length_append, List.flatMap_nil, List.length_nil, List.length_singleton] at this
    omega
  | x :: T, y :: U, hT, hU, h => by
    have e : ∀ (z : File) (V : List File), textT (z :: V) = ofB z.1 ++ 32 :: (Lib.decDigits z.2.length ++ 10 :: (lineT z.2 ++ textT V)) := fun z V => by simp [textT, fileT]
    rw [e, e] at h
    obtain ⟨x1, x2⟩ := hT x (by simp)
    obtain ⟨y1, y2⟩ := hU y (by simp)
    obtain ⟨h1, h2⟩ := sepU (name_no x1) (name_no y1) h
    obtain ⟨h3, h4⟩ := sepU (dec_no _) (dec_no _) h2
    have h5 : x.2.length = y.2.length := by have := congrArg decV h3; rwa [decV_dec, decV_dec] at this
    obtain ⟨h6, h7⟩ := lineT_inj h5 x2 y2 h4
    have h8 := textT_inj (fun z hz => hT z (List.mem_cons_of_mem _ hz)) (fun z hz => hU z (List.mem_cons_of_mem _ hz)) h7
    rw [h8]
    congr 1
    exact Prod.ext (ofB_inj h1) h6
theorem dec_le (u : Nat) : (Lib.decDigits u).length ≤ u + 1 := by
  induction u using Nat.strongRecOn with
  | _ u ih =>
    by_cases h : u < 10
    · rw [Lib.decDigits, dif_pos h]; simp
    · rw [Lib.decDigits, dif_neg h, List.length_append, List.length_singleton]
      have := ih (u / 10) (by omega)
      omega
theorem lineT_len (l : List ByteArray) : (lineT l).length = sizes l + l.length := by
  unfold lineT sizes
  induction l with
  | nil => rfl
  | cons x l ih =>
    simp only [List.flatMap_cons, List.length_append, List.map_cons, List.sum_cons, List.length_cons, List.length_nil, ih, ofB_length]
    omega
theorem textT_le {n m : Nat} {T : List File} (h : Tok n m T) : (textT T).length ≤ n * (4 * m + 3) := by
  have key : ∀ (U : List File), (∀ x ∈ U, x.2.length ≤ m ∧ sizes x.2 ≤ m ∧ x.1.size ≤ m) → (textT U).length ≤ U.length * (4 * m + 3) := by
    intro U
    induction U with
    | nil => intro _; simp [textT]
    | cons x U ih =>
      intro hU
      obtain ⟨h1, h2, h3⟩ := hU x (by simp)
      have ih := ih fun y hy => hU y (List.mem_cons_of_mem _ hy)
      have e : (textT (x :: U)).length = (fileT x).length + (textT U).length := by simp [textT]
      have e2 : (fileT x).length = x.1.size + 1 + (Lib.decDigits x.2.length).length + 1 + (lineT x.2).length := by simp only [fileT, List.length_append, ofB_length, List.length_singleton]
      have e3 := dec_le x.2.length
      have e4 := lineT_len x.2
      rw [List.length_cons, Nat.succ_mul]
      omega
  exact Nat.le_trans (key T h.fit) (Nat.mul_le_mul_right _ h.len)
theorem few_yes {l : List TOp} (h : ¬ 0 < fewO l) : l.length ≤ 80 ∧ omany l ≤ 8000 := by
  unfold fewO at h
  split at h
  · assumption
  · omega
theorem few_text {l : List TOp} (h : ¬ 0 < fewO l) : (textT (madeT l)).length ≤ 100000000 := by
  obtain ⟨h1, h2⟩ := few_yes h
  have ht : Tok l.length 8000 (madeT l) := madeT_tok fun o ho => by have := omany_mem ho; omega
  refine Nat.le_trans (textT_le ht) ?_
  have : l.length * (4 * 8000 + 3) ≤ 80 * (4 * 8000 + 3) := Nat.mul_le_mul_right _ h1
  omega
end Go.Sx

end
section
set_option linter.unusedVariables false
set_option linter.unusedSimpArgs false
namespace Go.Sx
open Go Go.RowKit
section
variable {ro : Option Nat} {P : Program} {M0 F0 : Nat → Prop} {w0 : World} {n : Nm} {σ : List (Nat × Value)} {Ξ : List Xsn} {Γ : List Asn} {d : Nat} {ty : TypeId} {pos : String} {af : Array Edge}
theorem o_ldrS {x : Operand} {t e : TypeId} {g c : Nat} {l : List ByteArray} {i j : Nat} {z : ByteArray} (hag : ∀ w, (isAgg t).run P w = .ok false w) (hx : ev σ x = some (.pointer (some ⟨g, 0 + j * Rp.size ByteArray, none⟩)))
    (hi : At (row e (some ⟨g, 0, none⟩) c l) i Ξ) (hj : l[j]? = some z) (hd : Nat.blt d n.n = true) :
    OpR P ⟨some d, .load t x, ty, pos, af, none⟩ (St M0 F0 w0 n σ Ξ Γ) (St M0 F0 w0 n ((d, .string z) :: σ) Ξ Γ) := by
  refine OpR.of_run rfl fun a w ⟨hs, Fs, hh⟩ => ?_
  obtain ⟨y, h1, h2⟩ := rowAt hi hj hh
  exact ⟨.string z, w, p_ld hag hx a hs w h1, hs.put hd, Fs, hh⟩
end
def ownT (M : List File) (l : List ByteArray) (k : Nat) : List File := (M.take k).map (fun x => (x.1, l)) ++ M.drop k
theorem ownT_keys (M : List File) (l : List ByteArray) (k : Nat) : (ownT M l k).map (·.1) = M.map (·.1) := by
  unfold ownT
  rw [List.map_append, List.map_map]
  have : ((fun x : File => x.1) ∘ fun x : File => (x.1, l)) = fun x : File => x.1 := rfl
  rw [this, ← List.map_append, List.take_append_drop]
theorem sor_keys {T U : List File} (h : T.map (·.1) = U.map (·.1)) (hT : Sor T) : Sor U := by
  have h1 : (T.map (·.1)).Pairwise kl := by rw [List.pairwise_map]; exact hT
  rw [h, List.pairwise_map] at h1
  exact h1
theorem ownT_sor {M : List File} (h : Sor M) (l : List ByteArray) (k : Nat) : Sor (ownT M l k) := sor_keys (ownT_keys M l k).symm h
theorem ownT_len (M : List File) (l : List ByteArray) (k : Nat) : (ownT M l k).length = M.length := by
  have := congrArg List.length (ownT_keys M l k)
  simpa using this
theorem ownT_has {M : List File} {l : List ByteArray} {k j : Nat} (hj : j < M.length) : hasT (ownT M l k) M[j].1 = true := by
  have h1 : M[j].1 ∈ (ownT M l k).map (·.1) := by rw [ownT_keys]; exact List.mem_map.2 ⟨M[j], List.getElem_mem hj, rfl⟩
  obtain ⟨x, hx, e⟩ := List.mem_map.1 h1
  exact hasT_iff.2 ⟨x, hx, e⟩
theorem ownT_put {M : List File} (h : Sor M) {l : List ByteArray} {k : Nat} (hk : k < M.length) : putT (ownT M l k) M[k].1 l = ownT M l (k + 1) := by
  refine sor_ext ((ownT_sor h l k).put _ _) (ownT_sor h l (k + 1)) fun x => ?_
  rw [mem_putT]
  have e1 : M.drop k = M[k] :: M.drop (k + 1) := List.drop_eq_getElem_cons hk
  have e2 : M.take (k + 1) = M.take k ++ [M[k]] := List.take_succ_eq_append_getElem hk
  have hp : M = M.take k ++ M[k] :: M.drop (k + 1) := by rw [← e1, List.take_append_drop]
  have hs := h
  rw [hp] at hs
  have hpw := List.pairwise_append.1 hs
  have hA : ∀ y ∈ M.take k, y.1 ≠ M[k].1 := fun y hy => kl_ne (hpw.2.2 y hy M[k] List.mem_cons_self)
  have hD : ∀ y ∈ M.drop (k + 1), y.1 ≠ M[k].1 := fun y hy e => kl_ne ((List.pairwise_cons.1 hpw.2.1).1 y hy) e.symm
  unfold ownT
  rw [e1, e2, List.map_append]
  simp only [List.mem_append, List.mem_cons, List.mem_map, List.map_cons, List.map_nil, List.not_mem_nil, or_false]
  constructor
  · rintro (rfl | ⟨h1 | rfl | h1, h2⟩)
    · exact .inl (.inr rfl)
    · exact .inl (.inl h1)
    · exact absurd rfl h2
    · exact .inr h1
  · rintro ((⟨y, hy, rfl⟩ | rfl) | h1)
    · exact .inr ⟨.inl ⟨y, hy, rfl⟩, hA y hy⟩
    · exact .inl rfl
    · exact .inr ⟨.inr (.inr h1), hD x h1⟩
theorem ownT_fit {M : List File} {l : List ByteArray} {k m : Nat} (h : ∀ x ∈ M, x.2.length ≤ m) (hl : l.length ≤ m) : ∀ x ∈ ownT M l k, x.2.length ≤ m := fun x hx => by
  rcases List.mem_append.1 hx with hx | hx
  · obtain ⟨y, _, rfl⟩ := List.mem_map.1 hx; exact hl
  · exact h x (List.mem_of_mem_drop hx)
theorem own_put {M : List File} (h : Sor M) {l : List ByteArray} {k : Nat} (hk : k < M.length) (hl : l.all lineOk = true) : tPut (ownT M l k) M[k].1 l = (ownT M l (k + 1), 0) := by
  unfold tPut
  rw [if_neg (by rw [ownT_has hk]; simp), if_neg (by rw [hl]; simp), ownT_put h hk]
theorem own_get {M : List File} (h : Sor M) {l : List ByteArray} {k : Nat} (hk : k < M.length) : getL (ownT M l (k + 1)) M[k].1 = l ∧ hasT (ownT M l (k + 1)) M[k].1 = true := by
  rw [← ownT_put h hk, getL, hasT, getT_put (ownT_sor h l k), if_pos rfl]
  exact ⟨rfl, rfl⟩
end Go.Sx

end
