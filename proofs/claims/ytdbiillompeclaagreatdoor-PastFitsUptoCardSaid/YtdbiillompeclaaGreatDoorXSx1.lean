/- OWN WORK: a part of the proof of a law of the seat YtdbiillompeclaaGreatDoor: the rules by which the code is walked. -/
import Derived.WalkKit
import Derived.Orders
import Derived.OrdersHeld
import Derived.OrdersIn
import Derived.TacticsIn
import Derived.RangeFuncLeaves
import Derived.RangeFuncRecord
import Derived.Deep.LoopGhost
import Derived.Maps.AppendAt
section
set_option linter.unusedVariables false
set_option linter.unusedSimpArgs false
namespace Go.Sx
open Go Go.RowKit

/-! ### slots -/
def look : List (Nat × Value) → Nat → Option Value
  | [], _ => none
  | (k, v) :: l, t => match Nat.beq k t with
    | true => some v
    | false => look l t
def ev (σ : List (Nat × Value)) : Operand → Option Value
  | .tmp t => look σ t
  | .const v => some v
  | .func f => some (.func (.func f) #[] #[])
  | .global g => some (.pointer (some ⟨g, 0, none⟩))
def evL (σ : List (Nat × Value)) : List Operand → Option (List Value)
  | [] => some []
  | x :: l => match ev σ x, evL σ l with
    | some v, some vs => some (v :: vs)
    | _, _ => none
/-- how many temporaries, and which marks stand among the deferred calls -/
structure Nm where
  n : Nat
  ds : List Deferred
instance (k : Nat) : OfNat Nm k := ⟨⟨k, []⟩⟩
structure Slots (n : Nm) (σ : List (Nat × Value)) (a : Act) : Prop where
  defers : a.defers = n.ds
  size : a.tmps.size = n.n
  val : ∀ t v, look σ t = some v → a.tmps.getD t undef = v
theorem Slots.ev {n σ a} (h : Slots n σ a) {x : Operand} {v : Value} (hx : ev σ x = some v) : a.eval x = v := by
  cases x with
  | tmp t => exact h.val t v hx
  | const u => exact Option.some.inj hx
  | global g => exact Option.some.inj hx
  | func f => exact Option.some.inj hx
theorem Slots.evL {n σ a} (h : Slots n σ a) : ∀ {l : List Operand} {vs : List Value}, evL σ l = some vs → l.map a.eval = vs
  | [], vs, hx => by cases hx; rfl
  | x :: l, vs, hx => by
    unfold Sx.evL at hx
    split at hx
    · rename_i v vs' h1 h2
      cases hx
      simp [h.ev h1, Slots.evL h h2]
    · cases hx
theorem Slots.put {n σ a} (h : Slots n σ a) {d : Nat} {v : Value} (hd : Nat.blt d n.n = true) : Slots n ((d, v) :: σ) (a.put (some d) v) where
  defers := h.defers
  size := by simp [Act.put, h.size]
  val := by
    intro t u ht
    simp only [look] at ht
    have hd' : d < a.tmps.size := by rw [h.size]; simpa [Nat.blt_eq] using hd
    split at ht
    · rename_i e
      have e' : d = t := Nat.eq_of_beq_eq_true e
      subst e'
      cases ht
      simp [Act.put, hd']
    · rename_i e
      have e' : d ≠ t := Nat.ne_of_beq_eq_false e
      have := h.val t u ht
      simpa [Act.put, Array.getD_eq_getD_getElem?, Array.getElem?_setIfInBounds, e'] using this
theorem Slots.put_none {n σ a} (h : Slots n σ a) (v : Value) : Slots n σ (a.put none v) := h
/-- forgetting -/
def subσ (σ σ' : List (Nat × Value)) : Prop := ∀ t v, look σ' t = some v → look σ t = some v
theorem Slots.sub {n σ σ' a} (h : Slots n σ a) (hs : subσ σ σ') : Slots n σ' a := ⟨h.defers, h.size, fun t v ht => h.val t v (hs t v ht)⟩
theorem subσ.nil (σ) : subσ σ [] := fun t v h => by cases h
theorem subσ.cons {σ σ' : List (Nat × Value)} {t : Nat} {v : Value} (h : look σ t = some v) (hs : subσ σ σ') : subσ σ ((t, v) :: σ') := by
  intro u x hx
  simp only [look] at hx
  split at hx
  · rename_i e
    have e' : t = u := Nat.eq_of_beq_eq_true e
    subst e'; cases hx; exact h
  · exact hs u x hx
theorem subσ.refl (σ) : subσ σ σ := fun _ _ h => h

/-! ### the heap: exclusive blocks and data -/
def own (Fs : List (Nat → Prop)) (b : Nat) : Prop := ∃ F ∈ Fs, F b
theorem own_nil (b : Nat) : ¬ own [] b := fun ⟨_, h, _⟩ => by cases h
theorem own_cons {F Fs b} : own (F :: Fs) b ↔ F b ∨ own Fs b := by simp [own]
theorem own_append {Fs Gs b} : own (Fs ++ Gs) b ↔ own Fs b ∨ own Gs b := by
  simp only [own, List.mem_append, or_and_right, exists_or]

/-- a fact on memory that nobody writes (M: the blocks that may be written) -/
structure Asn where
  p : (Nat → Prop) → World → Prop
  st : ∀ M M' w w', p M w → (∀ b, b < w.heap.size → ¬ M b → w'.heap[b]? = w.heap[b]?) → (∀ b, b < w.heap.size → M' b → M b) → w.heap.size ≤ w'.heap.size → p M' w'
/-- a fact on blocks that are somebody's own (F: those) -/
structure Xsn where
  p : (Nat → Prop) → (Nat → Prop) → World → Prop
  st : ∀ F M M' w w', p F M w → (∀ b, b < w.heap.size → (F b ∨ ¬ M b) → w'.heap[b]? = w.heap[b]?) → (∀ b, b < w.heap.size → M' b → M b) → w.heap.size ≤ w'.heap.size → p F M' w'

/-- what has become of a world -/
structure Upd (F : Nat → Prop) (w w' : World) : Prop where
  os : w'.os = w.os
  tape : w'.tape = w.tape
  output : w'.output = w.output
  size : w.heap.size ≤ w'.heap.size
  block : ∀ b, b < w.heap.size → ¬ F b → w'.heap[b]? = w.heap[b]?
theorem Upd.refl (F w) : Upd F w w := ⟨rfl, rfl, rfl, Nat.le_refl _, fun _ _ _ => rfl⟩
theorem Upd.trans {F w w1 w2} (h : Upd F w w1) {G} (k : Upd G w1 w2) (hG : ∀ b, b < w.heap.size → G b → F b) : Upd F w w2 :=
  ⟨k.os.trans h.os, k.tape.trans h.tape, k.output.trans h.output, Nat.le_trans h.size k.size, fun b hb hF =>
    (k.block b (Nat.lt_of_lt_of_le hb h.size) (fun hg => hF (hG b hb hg))).trans (h.block b hb hF)⟩
theorem Upd.of_below {w w'} (h : Below w.heap.size w w') (F) : Upd F w w' := ⟨h.os, h.tape, h.output, h.size, fun b hb _ => h.block b hb⟩
theorem Upd.below {F w w'} (h : Upd F w w') (hF : ∀ b, b < w.heap.size → ¬ F b) : Below w.heap.size w w' := ⟨h.os, h.tape, h.output, h.size, fun b hb => h.block b hb (hF b hb)⟩

def all2 (M : Nat → Prop) (w : World) : List Xsn → List (Nat → Prop) → Prop
  | [], [] => True
  | x :: Ξ, F :: Fs => x.p F M w ∧ all2 M w Ξ Fs
  | _, _ => False
theorem all2.st {M M' w w'} : ∀ {Ξ Fs}, all2 M w Ξ Fs → (∀ b, b < w.heap.size → (own Fs b ∨ ¬ M b) → w'.heap[b]? = w.heap[b]?) → (∀ b, b < w.heap.size → M' b → M b) → w.heap.size ≤ w'.heap.size → all2 M' w' Ξ Fs
  | [], [], _, _, _, _ => trivial
  | x :: Ξ, F :: Fs, h, hb, hm, hs => ⟨x.st F M M' w w' h.1 (fun b hlt hF => hb b hlt (hF.imp (fun h => own_cons.2 (.inl h)) id)) hm hs,
      all2.st h.2 (fun b hlt hF => hb b hlt (hF.imp (fun h => own_cons.2 (.inr h)) id)) hm hs⟩
  | [], _ :: _, h, _, _, _ => h.elim
  | _ :: _, [], h, _, _, _ => h.elim

structure Hp (M0 F0 : Nat → Prop) (w0 : World) (Ξ : List Xsn) (Γ : List Asn) (Fs : List (Nat → Prop)) (w : World) : Prop where
  ex : all2 (fun b => M0 b ∨ own Fs b) w Ξ Fs
  dis : Fs.Pairwise (fun F G => ∀ b, F b → ¬ G b)
  dis0 : ∀ b, own Fs b → ¬ M0 b
  lt : ∀ b, own Fs b → b < w.heap.size
  old : ∀ b, own Fs b → b < w0.heap.size → F0 b
  ga : ∀ p ∈ Γ, p.p (fun b => M0 b ∨ own Fs b) w
  up : Upd F0 w0 w
  m0 : ∀ b, M0 b → b < w0.heap.size
  f0 : ∀ b, F0 b → ¬ M0 b

/-- the state of a walk -/
def St (M0 F0 : Nat → Prop) (w0 : World) (n : Nm) (σ : List (Nat × Value)) (Ξ : List Xsn) (Γ : List Asn) (a : Act) (w : World) : Prop :=
  Slots n σ a ∧ ∃ Fs, Hp M0 F0 w0 Ξ Γ Fs w

/-- a world with the same memory -/
theorem Hp.same {M0 F0 w0 Ξ Γ Fs w} (h : Hp M0 F0 w0 Ξ Γ Fs w) {w' : World} (hh : w'.heap = w.heap) (ho : w'.os = w.os) (ht : w'.tape = w.tape) (hu : w'.output = w.output) : Hp M0 F0 w0 Ξ Γ Fs w' where
  ex := h.ex.st (fun b _ _ => by rw [hh]) (fun b _ hb => hb) (by rw [hh]; exact Nat.le_refl _)
  dis := h.dis
  dis0 := h.dis0
  lt := by rw [hh]; exact h.lt
  old := h.old
  ga := fun p hp => p.st _ _ _ _ (h.ga p hp) (fun b _ _ => by rw [hh]) (fun b _ hb => hb) (by rw [hh]; exact Nat.le_refl _)
  up := h.up.trans (G := F0) ⟨ho, ht, hu, by rw [hh]; exact Nat.le_refl _, fun b _ _ => by rw [hh]⟩ (fun _ _ h => h)
  m0 := h.m0
  f0 := h.f0

/-- a block that is a variable's -/
def box (b : Nat) (t : TypeId) (cs : List Value) : Xsn where
  p F M w := (∀ x, F x ↔ x = b) ∧ w.heap[b]? = some (.cells cs.toArray t (0, 0))
  st := by
    intro F M M' w w' ⟨h1, h2⟩ hb _ _
    have hlt : b < w.heap.size := (Array.getElem?_eq_some_iff.1 h2).1
    exact ⟨h1, by rw [hb b hlt (.inl ((h1 b).2 rfl)), h2]⟩

theorem Hp.alloc {M0 F0 w0 Ξ Γ Fs w} (h : Hp M0 F0 w0 Ξ Γ Fs w) (t : TypeId) (cs : List Value) :
    ∃ Fs', Hp M0 F0 w0 (box w.heap.size t cs :: Ξ) Γ Fs' (w.alloc (.cells cs.toArray t)) := by
  have hsz := h.up.size
  have hold : ∀ b, b < w.heap.size → (w.alloc (.cells cs.toArray t)).heap[b]? = w.heap[b]? := fun b hb => Below.heap_alloc w _ b hb
  have hM : ∀ b, b < w.heap.size → (M0 b ∨ own ((fun x => x = w.heap.size) :: Fs) b) → (M0 b ∨ own Fs b) := by
    intro b hb hm
    rcases hm with hm | hm
    · exact .inl hm
    · rcases own_cons.1 hm with e | e
      · omega
      · exact .inr e
  refine ⟨(fun x => x = w.heap.size) :: Fs, ⟨⟨⟨fun x => Iff.rfl, ?_⟩, ?_⟩, ?_, ?_, ?_, ?_, ?_, ?_, h.m0, h.f0⟩⟩
  · show (w.heap.push _)[w.heap.size]? = _
    simp
  · exact h.ex.st (fun b hb _ => hold b hb) hM (by simp)
  · refine List.pairwise_cons.2 ⟨fun G hG b hb hg => ?_, h.dis⟩
    have := h.lt b ⟨G, hG, hg⟩
    omega
  · intro b hb
    rcases own_cons.1 hb with e | e
    · intro hm; have := h.m0 b hm; omega
    · exact h.dis0 b e
  · intro b hb
    rcases own_cons.1 hb with e | e
    · subst e; simp
    · have := h.lt b e; simp; omega
  · intro b hb hlt
    rcases own_cons.1 hb with e | e
    · omega
    · exact h.old b e hlt
  · exact fun p hp => p.st _ _ _ _ (h.ga p hp) (fun b hb _ => hold b hb) hM (by simp)
  · exact h.up.trans (G := fun _ => False) ⟨rfl, rfl, rfl, by simp, fun b hb _ => hold b hb⟩ (fun _ _ h => h.elim)

/-- the exclusive fact at a place -/
theorem all2.at {M w} : ∀ {Ξ Fs} {i : Nat} {x : Xsn}, all2 M w Ξ Fs → Ξ[i]? = some x → ∃ F, Fs[i]? = some F ∧ x.p F M w
  | x :: Ξ, F :: Fs, 0, y, h, hi => by
    have : x = y := by simpa using hi
    subst this
    exact ⟨F, rfl, h.1⟩
  | x :: Ξ, F :: Fs, i + 1, y, h, hi => all2.at (i := i) h.2 (by simpa using hi)
  | [], [], i, y, _, hi => by simp at hi
  | [], _ :: _, _, _, h, _ => h.elim
  | _ :: _, [], _, _, h, _ => h.elim

theorem Hp.cell {M0 F0 w0 Ξ Γ Fs w} (h : Hp M0 F0 w0 Ξ Γ Fs w) {i b : Nat} {t : TypeId} {cs : List Value} (hi : Ξ[i]? = some (box b t cs)) : w.heap[b]? = some (.cells cs.toArray t (0, 0)) := by
  obtain ⟨F, _, hp⟩ := h.ex.at hi
  exact hp.2
end Go.Sx

end
section
set_option linter.unusedVariables false
set_option linter.unusedSimpArgs false
namespace Go.Sx
open Go Go.RowKit

theorem all2.set {M M' w w'} {x' : Xsn} {F : Nat → Prop} : ∀ {Ξ Fs} {i : Nat}, all2 M w Ξ Fs → Fs[i]? = some F → Fs.Pairwise (fun F G => ∀ b, F b → ¬ G b) →
    (∀ b, b < w.heap.size → ¬ F b → w'.heap[b]? = w.heap[b]?) → (∀ b, own Fs b → M b) → (∀ b, b < w.heap.size → M' b → M b) → w.heap.size ≤ w'.heap.size → x'.p F M' w' → all2 M' w' (Ξ.set i x') Fs
  | x :: Ξ, G :: Fs, 0, h, hi, hd, hb, hO, hM, hs, hx => by
    have : G = F := by simpa using hi
    subst this
    refine ⟨hx, h.2.st (fun b hlt hF => hb b hlt ?_) hM hs⟩
    intro hg
    rcases hF with ⟨G', hG', hgb⟩ | hn
    · exact (List.pairwise_cons.1 hd).1 G' hG' b hg hgb
    · exact hn (hO b (own_cons.2 (.inl hg)))
  | x :: Ξ, G :: Fs, i + 1, h, hi, hd, hb, hO, hM, hs, hx => by
    have hi' : Fs[i]? = some F := by simpa using hi
    have hmem : F ∈ Fs := List.mem_of_getElem? hi'
    refine ⟨x.st G _ _ _ _ h.1 (fun b hlt hF => hb b hlt ?_) hM hs, all2.set (i := i) h.2 hi' (List.pairwise_cons.1 hd).2 hb (fun b hb => hO b (own_cons.2 (.inr hb))) hM hs hx⟩
    intro hf
    rcases hF with hg | hn
    · exact (List.pairwise_cons.1 hd).1 F hmem b hg hf
    · exact hn (hO b (own_cons.2 (.inr ⟨F, hmem, hf⟩)))
  | [], [], i, h, hi, _, _, _, _, _, _ => by simp at hi
  | [], _ :: _, _, h, _, _, _, _, _, _, _ => h.elim
  | _ :: _, [], _, h, _, _, _, _, _, _, _ => h.elim

/-- what is exclusive at i changes in place -/
theorem Hp.set {M0 F0 w0 Ξ Γ Fs w} (h : Hp M0 F0 w0 Ξ Γ Fs w) {i : Nat} {x' : Xsn} {F : Nat → Prop} {w' : World} (hF : Fs[i]? = some F) (hu : Upd F w w') (hx : x'.p F (fun b => M0 b ∨ own Fs b) w') :
    Hp M0 F0 w0 (Ξ.set i x') Γ Fs w' where
  ex := h.ex.set hF h.dis hu.block (fun b hb => .inr hb) (fun b _ hb => hb) hu.size hx
  dis := h.dis
  dis0 := h.dis0
  lt := fun b hb => Nat.lt_of_lt_of_le (h.lt b hb) hu.size
  old := h.old
  ga := fun p hp => p.st _ _ _ _ (h.ga p hp) (fun b hb hn => hu.block b hb (fun hf => hn (.inr ⟨F, List.mem_of_getElem? hF, hf⟩))) (fun b _ hb => hb) hu.size
  up := h.up.trans hu (fun b hb hf => h.old b ⟨F, List.mem_of_getElem? hF, hf⟩ hb)
  m0 := h.m0
  f0 := h.f0

theorem Hp.setBox {M0 F0 w0 Ξ Γ Fs w} (h : Hp M0 F0 w0 Ξ Γ Fs w) {i b : Nat} {t : TypeId} {cs : List Value} (hi : Ξ[i]? = some (box b t cs)) (cs' : List Value) :
    Hp M0 F0 w0 (Ξ.set i (box b t cs')) Γ Fs (w.setRow b cs'.toArray) := by
  obtain ⟨F, hF, hp⟩ := h.ex.at hi
  refine h.set hF ⟨rfl, rfl, rfl, by simp, fun k _ hk => setRow_other w b k _ (fun e => hk ((hp.1 k).2 e))⟩ ⟨hp.1, setRow_heap w b _ _ t _ hp.2⟩

/-! ### selecting -/
def takeAt {α : Type} : Nat → List α → Option (α × List α)
  | _, [] => none
  | 0, x :: l => some (x, l)
  | i + 1, x :: l => match takeAt i l with
    | some (y, l') => some (y, x :: l')
    | none => none
/-- the exclusive ones that a callee is given (in its order), and those that are left -/
def takeAll {α : Type} : List Nat → List α → Option (List α × List α)
  | [], l => some ([], l)
  | i :: is, l => match takeAt i l with
    | some (x, l') => match takeAll is l' with
      | some (xs, l'') => some (x :: xs, l'')
      | none => none
    | none => none
theorem all2.takeAt {M w} : ∀ {i : Nat} {Ξ : List Xsn} {Fs} {x : Xsn} {Ξ'}, all2 M w Ξ Fs → Sx.takeAt i Ξ = some (x, Ξ') → ∃ F Fs', Sx.takeAt i Fs = some (F, Fs') ∧ x.p F M w ∧ all2 M w Ξ' Fs'
  | 0, y :: Ξ, F :: Fs, x, Ξ', h, hi => by
    simp only [Sx.takeAt, Option.some.injEq, Prod.mk.injEq] at hi
    obtain ⟨rfl, rfl⟩ := hi
    exact ⟨F, Fs, rfl, h.1, h.2⟩
  | i + 1, y :: Ξ, F :: Fs, x, Ξ', h, hi => by
    simp only [Sx.takeAt] at hi
    split at hi
    · rename_i z l' hz
      simp only [Option.some.injEq, Prod.mk.injEq] at hi
      obtain ⟨rfl, rfl⟩ := hi
      obtain ⟨G, Fs', h1, h2, h3⟩ := all2.takeAt h.2 hz
      exact ⟨G, F :: Fs', by simp [Sx.takeAt, h1], h2, h.1, h3⟩
    · cases hi
  | 0, [], [], _, _, _, hi => by simp [Sx.takeAt] at hi
  | _ + 1, [], [], _, _, _, hi => by simp [Sx.takeAt] at hi
  | 0, [], _ :: _, _, _, h, _ => h.elim
  | 0, _ :: _, [], _, _, h, _ => h.elim
  | _ + 1, [], _ :: _, _, _, h, _ => h.elim
  | _ + 1, _ :: _, [], _, _, h, _ => h.elim
theorem takeAt_perm {α : Type} : ∀ {i : Nat} {l : List α} {x l'}, takeAt i l = some (x, l') → List.Perm l (x :: l')
  | 0, y :: l, x, l', h => by
    simp only [takeAt, Option.some.injEq, Prod.mk.injEq] at h
    obtain ⟨rfl, rfl⟩ := h
    exact List.Perm.refl _
  | i + 1, y :: l, x, l', h => by
    simp only [takeAt] at h
    split at h
    · rename_i z l2 hz
      simp only [Option.some.injEq, Prod.mk.injEq] at h
      obtain ⟨rfl, rfl⟩ := h
      exact (List.Perm.cons y (takeAt_perm hz)).trans (List.Perm.swap z y l2)
    · cases h
  | 0, [], _, _, h => by simp [takeAt] at h
  | _ + 1, [], _, _, h => by simp [takeAt] at h
theorem all2.takeAll {M w} : ∀ {is : List Nat} {Ξ : List Xsn} {Fs} {xs Ξ'}, all2 M w Ξ Fs → Sx.takeAll is Ξ = some (xs, Ξ') → ∃ Gs Fs', List.Perm Fs (Gs ++ Fs') ∧ all2 M w xs Gs ∧ all2 M w Ξ' Fs'
  | [], Ξ, Fs, xs, Ξ', h, hi => by
    simp only [Sx.takeAll, Option.some.injEq, Prod.mk.injEq] at hi
    obtain ⟨rfl, rfl⟩ := hi
    exact ⟨[], Fs, List.Perm.refl _, trivial, h⟩
  | i :: is, Ξ, Fs, xs, Ξ', h, hi => by
    simp only [Sx.takeAll] at hi
    split at hi
    · rename_i x l' hz
      split at hi
      · rename_i ys l'' hy
        simp only [Option.some.injEq, Prod.mk.injEq] at hi
        obtain ⟨rfl, rfl⟩ := hi
        obtain ⟨F, Fs1, h1, h2, h3⟩ := h.takeAt hz
        obtain ⟨Gs, Fs2, k1, k2, k3⟩ := all2.takeAll h3 hy
        exact ⟨F :: Gs, Fs2, (takeAt_perm h1).trans (k1.cons F), ⟨h2, k2⟩, k3⟩
      · cases hi
    · cases hi
theorem own_perm {Fs Gs : List (Nat → Prop)} (h : List.Perm Fs Gs) (b) : own Fs b ↔ own Gs b := by simp [own, h.mem_iff]
theorem disj_symm {F G : Nat → Prop} (h : ∀ b, F b → ¬ G b) : ∀ b, G b → ¬ F b := fun b hg hf => h b hf hg

def pickAll {α : Type} : List Nat → List α → Option (List α)
  | [], _ => some []
  | i :: is, l => match l[i]?, pickAll is l with
    | some x, some xs => some (x :: xs)
    | _, _ => none
theorem pickAll_mem {α : Type} : ∀ {is : List Nat} {l xs : List α}, pickAll is l = some xs → ∀ x ∈ xs, x ∈ l
  | [], l, xs, h, x, hx => by
    simp only [pickAll, Option.some.injEq] at h
    subst h; cases hx
  | i :: is, l, xs, h, x, hx => by
    simp only [pickAll] at h
    split at h
    · rename_i y ys h1 h2
      cases h
      cases hx with
      | head => exact List.mem_of_getElem? h1
      | tail _ hx => exact pickAll_mem h2 x hx
    · cases h

/-! ### contracts -/
def Con (P : Program) (f : FuncId) (args : List Value) (Ξi : List Xsn) (Γi : List Asn) (X : Type) (rv : X → Value) (Ξo : X → List Xsn) (Γo : X → List Asn) : Prop :=
  ∀ M0 Fs w, Hp M0 (own Fs) w Ξi Γi Fs w → Calls P f args.toArray w fun e w' => ∃ x Fs', e = .returned (rv x) ∧ Hp M0 (own Fs) w (Ξo x) (Γo x) Fs' w'

theorem perm_pairwise {Fs Gs : List (Nat → Prop)} (h : List.Perm Fs Gs) (hd : Fs.Pairwise (fun F G => ∀ b, F b → ¬ G b)) : Gs.Pairwise (fun F G => ∀ b, F b → ¬ G b) :=
  h.pairwise hd (fun h => disj_symm h)

theorem Hp.select {M0 F0 w0 Ξ Γ Fs w} (h : Hp M0 F0 w0 Ξ Γ Fs w) {is : List Nat} {xs Ξ' : List Xsn} {Γi : List Asn} (hs : takeAll is Ξ = some (xs, Ξ')) (hg : ∀ p ∈ Γi, p ∈ Γ) :
    ∃ Gs Hs, List.Perm Fs (Gs ++ Hs) ∧ Hp (fun b => M0 b ∨ own Hs b) (own Gs) w xs Γi Gs w ∧ all2 (fun b => M0 b ∨ own Fs b) w Ξ' Hs := by
  obtain ⟨Gs, Hs, hp, hx, hr⟩ := h.ex.takeAll hs
  have hown : ∀ b, own Fs b ↔ own Gs b ∨ own Hs b := fun b => (own_perm hp b).trans own_append
  have hpw := List.pairwise_append.1 (perm_pairwise hp h.dis)
  have hMM : ∀ b, (M0 b ∨ own Hs b) ∨ own Gs b ↔ M0 b ∨ own Fs b := fun b => by rw [hown b, or_assoc, or_comm (a := own Hs b)]
  refine ⟨Gs, Hs, hp, ⟨hx.st (fun _ _ _ => rfl) (fun b _ hb => (hMM b).1 hb) (Nat.le_refl _), hpw.1, ?_, fun b hb => h.lt b ((hown b).2 (.inl hb)), fun b hb _ => hb, ?_, Upd.refl _ _, ?_, ?_⟩, hr⟩
  · rintro b ⟨F, hF, hb⟩ (hm | ⟨G, hG, hg⟩)
    · exact h.dis0 b ((hown b).2 (.inl ⟨F, hF, hb⟩)) hm
    · exact hpw.2.2 F hF G hG b hb hg
  · exact fun p hp' => p.st _ _ _ _ (h.ga p (hg p hp')) (fun _ _ _ => rfl) (fun b _ hb => (hMM b).1 hb) (Nat.le_refl _)
  · rintro b (hm | hm)
    · exact Nat.lt_of_lt_of_le (h.m0 b hm) h.up.size
    · exact h.lt b ((hown b).2 (.inr hm))
  · rintro b ⟨F, hF, hb⟩ (hm | ⟨G, hG, hg⟩)
    · exact h.dis0 b ((hown b).2 (.inl ⟨F, hF, hb⟩)) hm
    · exact hpw.2.2 F hF G hG b hb hg

theorem all2.append {M w} : ∀ {Ξ Fs Ξ' Fs'}, all2 M w Ξ Fs → all2 M w Ξ' Fs' → all2 M w (Ξ ++ Ξ') (Fs ++ Fs')
  | [], [], _, _, _, h => h
  | x :: Ξ, F :: Fs, _, _, h, h' => ⟨h.1, all2.append h.2 h'⟩
  | [], _ :: _, _, _, h, _ => h.elim
  | _ :: _, [], _, _, h, _ => h.elim

theorem Hp.back {M0 F0 w0 Ξ Γ Fs w} (h : Hp M0 F0 w0 Ξ Γ Fs w) {Gs Hs Ξ' Ξo Γo Gs' w'} (hp : List.Perm Fs (Gs ++ Hs)) (hr : all2 (fun b => M0 b ∨ own Fs b) w Ξ' Hs)
    (k : Hp (fun b => M0 b ∨ own Hs b) (own Gs) w Ξo Γo Gs' w') : Hp M0 F0 w0 (Ξo ++ Ξ') (Γo ++ Γ) (Gs' ++ Hs) w' := by
  have hown : ∀ b, own Fs b ↔ own Gs b ∨ own Hs b := fun b => (own_perm hp b).trans own_append
  have hpw := List.pairwise_append.1 (perm_pairwise hp h.dis)
  have hMM : ∀ b, (M0 b ∨ own Hs b) ∨ own Gs' b ↔ M0 b ∨ own (Gs' ++ Hs) b := fun b => by rw [own_append, or_assoc, or_comm (a := own Hs b)]
  have hM : ∀ b, b < w.heap.size → (M0 b ∨ own (Gs' ++ Hs) b) → (M0 b ∨ own Fs b) := fun b hb hm => by
    rw [own_append] at hm
    rcases hm with hm | hm | hm
    · exact .inl hm
    · exact .inr ((hown b).2 (.inl (k.old b hm hb)))
    · exact .inr ((hown b).2 (.inr hm))
  refine ⟨(k.ex.st (fun _ _ _ => rfl) (fun b _ hb => (hMM b).2 hb) (Nat.le_refl _)).append (hr.st (fun b hb hF => k.up.block b hb ?_) hM k.up.size), ?_, ?_, ?_, ?_, ?_, ?_, h.m0, h.f0⟩
  · intro hg
    rcases hF with ⟨H, hH, hh⟩ | hn
    · obtain ⟨G, hG, hg⟩ := hg
      exact hpw.2.2 G hG H hH b hg hh
    · exact hn (.inr ((hown b).2 (.inl hg)))
  · refine List.pairwise_append.2 ⟨k.dis, hpw.2.1, fun F hF G hG b hf hg => ?_⟩
    exact k.dis0 b ⟨F, hF, hf⟩ (.inr ⟨G, hG, hg⟩)
  · intro b hb hm
    rw [own_append] at hb
    rcases hb with hb | hb
    · exact k.dis0 b hb (.inl hm)
    · exact h.dis0 b ((hown b).2 (.inr hb)) hm
  · intro b hb
    rw [own_append] at hb
    rcases hb with hb | hb
    · exact k.lt b hb
    · exact Nat.lt_of_lt_of_le (h.lt b ((hown b).2 (.inr hb))) k.up.size
  · intro b hb hlt
    rw [own_append] at hb
    have hlt' := Nat.lt_of_lt_of_le hlt h.up.size
    rcases hb with hb | hb
    · exact h.old b ((hown b).2 (.inl (k.old b hb hlt'))) hlt
    · exact h.old b ((hown b).2 (.inr hb)) hlt
  · intro p hp'
    rcases List.mem_append.1 hp' with hp' | hp'
    · exact p.st _ _ _ _ (k.ga p hp') (fun _ _ _ => rfl) (fun b _ hb => (hMM b).2 hb) (Nat.le_refl _)
    · exact p.st _ _ _ _ (h.ga p hp') (fun b hb hn => k.up.block b hb (fun hg => hn (.inr ((hown b).2 (.inl hg))))) hM k.up.size
  · exact h.up.trans k.up (fun b hb hg => h.old b ((hown b).2 (.inl hg)) hb)

/-! ### one operation -/
/-- the fence: all machines; ro: of which loop's round the frame is -/
def Fr (ro : Option Nat) : Fence := { Fence.wide with round := ro }
theorem Fr.calls {ro : Option Nat} {n : Nat} {P : Program} {f : FuncId} {args : Array Value} {w : World} {R : Ending → World → Prop} (h : Calls P f args w R) : CallsIn (Fr ro) n P f args w R :=
  (callsIn_wide (n := n)).2 h
theorem nodefer_value {P : Program} {o : Oper} {ρ : Operand → Value} {w w' : World} {v : Value} (h : (execOp ρ o).run P w = .ok (.value v) w') : ∀ c, o.op ≠ .defer c := by
  intro c e
  unfold execOp at h
  rw [e] at h
  simp only [Sem.run_bind] at h
  generalize (resolve ρ c o.type).run P w = r at h
  cases r with
  | ok x y => simp [Result.andThen] at h
  | halt x y => simp [Result.andThen] at h
theorem nodefer_skip {P : Program} {o : Oper} {ρ : Operand → Value} {w w' : World} (h : (execOp ρ o).run P w = .ok .skip w') : ∀ c, o.op ≠ .defer c := by
  intro c e
  unfold execOp at h
  rw [e] at h
  simp only [Sem.run_bind] at h
  generalize (resolve ρ c o.type).run P w = r at h
  cases r with
  | ok x y => simp [Result.andThen] at h
  | halt x y => simp [Result.andThen] at h
theorem nodefer_enter {P : Program} {o : Oper} {ρ : Operand → Value} {w w' : World} {f : FuncId} {args : Array Value} (h : (execOp ρ o).run P w = .ok (.enter f args) w') : ∀ c, o.op ≠ .defer c := by
  intro c e
  unfold execOp at h
  rw [e] at h
  simp only [Sem.run_bind] at h
  generalize (resolve ρ c o.type).run P w = r at h
  cases r with
  | ok x y => simp [Result.andThen] at h
  | halt x y => simp [Result.andThen] at h
theorem nodefer_round {P : Program} {o : Oper} {ρ : Operand → Value} {w w' : World} {l : Nat} {f : FuncId} {tmps : Array Value} {c1 c2 : Code} (h : (execOp ρ o).run P w = .ok (.round l f tmps c1 c2) w') : ∀ c, o.op ≠ .defer c := by
  intro c e
  unfold execOp at h
  rw [e] at h
  simp only [Sem.run_bind] at h
  generalize (resolve ρ c o.type).run P w = r at h
  cases r with
  | ok x y => simp [Result.andThen] at h
  | halt x y => simp [Result.andThen] at h
def OpR (P : Program) (o : Oper) (S S' : Act → World → Prop) : Prop :=
  ∀ (K : Act → World → Prop) (Q : Exit → Act → World → Prop) a w, S a w → (∀ a' w', S' a' w' → K a' w') → o.guard = none ∧ ∀ ro, o.wpIn (Fr ro) 0 P a w K Q
theorem OpR.mono {P o S S' S''} (h : OpR P o S S') (hs : ∀ a w, S' a w → S'' a w) : OpR P o S S'' :=
  fun K Q a w hS hK => h K Q a w hS (fun a' w' h' => hK a' w' (hs a' w' h'))
/-- an operation that runs to a value -/
theorem OpR.of_run {P o S S'} (hg : o.guard = none) (h : ∀ a w, S a w → ∃ v w', (execOp a.eval o).run P w = .ok (.value v) w' ∧ S' (a.put o.dst v) w') : OpR P o S S' := by
  intro K Q a w hS hK
  obtain ⟨v, w', hr, hS'⟩ := h a w hS
  refine ⟨hg, fun ro => ⟨fun _ _ => trivial, ?_⟩⟩
  rw [Oper.semAt_eq _ _ _ (nodefer_value hr), hr]
  exact hK _ _ hS'
theorem OpR.of_skip {P o S S'} (hg : o.guard = none) (h : ∀ a w, S a w → ∃ w', (execOp a.eval o).run P w = .ok .skip w' ∧ S' (a.put o.dst undef) w') : OpR P o S S' := by
  intro K Q a w hS hK
  obtain ⟨w', hr, hS'⟩ := h a w hS
  refine ⟨hg, fun ro => ⟨fun _ _ => trivial, ?_⟩⟩
  rw [Oper.semAt_eq _ _ _ (nodefer_skip hr), hr]
  exact hK _ _ hS'
theorem OpR.of_enter {P o S S'} (hg : o.guard = none) (h : ∀ a w, S a w → ∃ f args, (execOp a.eval o).run P w = .ok (.enter f args) w ∧ Calls P f args w fun e w' => ∃ v, e = .returned v ∧ S' (a.put o.dst v) w') : OpR P o S S' := by
  intro K Q a w hS hK
  obtain ⟨f, args, hr, hc⟩ := h a w hS
  refine ⟨hg, fun ro => ⟨fun _ _ => trivial, ?_⟩⟩
  rw [Oper.semAt_eq _ _ _ (nodefer_enter hr), hr]
  refine ⟨(fun h => (by cases h)), ?_⟩
  refine Fr.calls (hc.mono ?_)
  rintro e w' ⟨v, rfl, h'⟩
  exact hK _ _ h'
/-- a call of yield -/
theorem OpR.of_round {P o S S'} (hg : o.guard = none) (h : ∀ a w, S a w → ∃ l f tmps c1 c2 w1, (execOp a.eval o).run P w = .ok (.round l f tmps c1 c2) w1 ∧ RoundIn Fence.wide 0 P l f tmps c1 c2 w1 fun e w' => ∃ v, e = .returned v ∧ S' (a.put o.dst v) w') : OpR P o S S' := by
  intro K Q a w hS hK
  obtain ⟨l, f, tmps, c1, c2, w1, hr, hc⟩ := h a w hS
  refine ⟨hg, fun ro => ⟨fun _ _ => trivial, ?_⟩⟩
  rw [Oper.semAt_eq _ _ _ (nodefer_round hr), hr]
  refine ⟨(fun h => (by cases h)), ?_⟩
  have hc' : RoundIn (Fr ro) 0 P l f tmps c1 c2 w1 fun e w' => ∃ v, e = .returned v ∧ S' (a.put o.dst v) w' := hc
  refine hc'.mono ?_
  rintro e w' ⟨v, rfl, h'⟩
  exact hK _ _ h'

/-- what a body must achieve -/
def BP (P : Program) (fn : Func) (R : Ending → World → Prop) : Exit → Act → World → Prop
  | .normal, a, w | .ret, a, w => LeavesInM Fence.wide 0 P fn a.tmps R a.defers .returning w
  | _, _, _ => False
theorem BP.post {P : Program} {fn : Func} {R : Ending → World → Prop} : ∀ e a w, BP P fn R e a w → bodyPostM Fence.wide 0 P fn R e a w := by
  intro e a w h
  cases e <;> first | exact h | exact h.elim

/-! ### the walk -/
def TrL (ro : Option Nat) (P : Program) (ops : Array Oper) (Q : Exit → Act → World → Prop) (S : Act → World → Prop) (l : List Oper) : Prop := ∀ a w, S a w → wpListIn (Fr ro) 0 P ops Q l a w
def TrC (ro : Option Nat) (P : Program) (Q : Exit → Act → World → Prop) (S : Act → World → Prop) (c : Code) : Prop := ∀ a w, S a w → c.wpIn (Fr ro) 0 P Q a w
def TrN (Q : Exit → Act → World → Prop) (e : Exit) (S : Act → World → Prop) : Prop := ∀ a w, S a w → Q e a w
section
variable {ro : Option Nat} {P : Program} {ops : Array Oper} {Q : Exit → Act → World → Prop} {S S' : Act → World → Prop}
theorem ls {o : Oper} {l : List Oper} (h : OpR P o S S') (k : TrL ro P ops Q S' l) : TrL ro P ops Q S (o :: l) := by
  intro a w hS
  obtain ⟨hg, hw⟩ := h (wpListIn (Fr ro) 0 P ops Q l) Q a w hS k
  unfold wpListIn
  rw [if_pos (by simp [Region.wanted, hg])]
  exact hw ro
theorem le {X : Type} {S : X → Act → World → Prop} {l : List Oper} (k : ∀ x, TrL ro P ops Q (S x) l) : TrL ro P ops Q (fun a w => ∃ x, S x a w) l := fun a w ⟨x, h⟩ => k x a w h
theorem ln (k : TrN Q .normal S) : TrL ro P ops Q S [] := k
theorem cr {id : Nat} {l : List Oper} (k : TrL ro P l.toArray Q S l) : TrC ro P Q S (.region id l.toArray false) := fun a w h => wpIn_region_lit (k a w h)
theorem cs {x y : Code} (k : TrC ro P (Exit.then (y.wpIn (Fr ro) 0 P Q) Q) S x) : TrC ro P Q S (.seq x y) := fun a w h => wpIn_seq (k a w h)
theorem cb {id : Nat} {c : Code} (k : TrC ro P (Exit.inBlock id Q) S c) : TrC ro P Q S (.block id c) := fun a w h => wpIn_block (k a w h)
theorem cskip (k : TrN Q .normal S) : TrC ro P Q S .skip := fun a w h => wpIn_skip (k a w h)
theorem cexit {id : Nat} (k : TrN Q (.exit id) S) : TrC ro P Q S (.exit id) := fun a w h => wpIn_exit (k a w h)
theorem cret (k : TrN Q .ret S) : TrC ro P Q S .ret := fun a w h => wpIn_ret (k a w h)
theorem nthen {y : Code} {Q' : Exit → Act → World → Prop} (k : TrC ro P Q S y) : TrN (Exit.then (y.wpIn (Fr ro) 0 P Q) Q') .normal S := k
theorem nblock {id : Nat} (k : TrN Q .normal S) : TrN (Exit.inBlock id Q) .normal S := k
theorem xthen {id : Nat} {N : Act → World → Prop} (k : TrN Q (.exit id) S) : TrN (Exit.then N Q) (.exit id) S := k
theorem xblock {id : Nat} (k : TrN Q .normal S) : TrN (Exit.inBlock id Q) (.exit id) S := fun a w h => by unfold Exit.inBlock; simp only [if_true]; exact k a w h
theorem xblock' {id id' : Nat} (hn : Nat.beq id id' = false) (k : TrN Q (.exit id) S) : TrN (Exit.inBlock id' Q) (.exit id) S := fun a w h => by
  have : ¬ id = id' := Nat.ne_of_beq_eq_false hn
  unfold Exit.inBlock; simp only [if_neg this]; exact k a w h
theorem xret {fn : Func} {R : Ending → World → Prop} (hQ : ∀ a w, BP P fn R .ret a w → Q .ret a w) (k : TrN (BP P fn R) .ret S) : TrN Q .ret S := fun a w h => hQ a w (k a w h)
theorem cmono {c : Code} (hs : ∀ a w, S a w → S' a w) (k : TrC ro P Q S' c) : TrC ro P Q S c := fun a w h => k a w (hs a w h)
theorem lmono {l : List Oper} (hs : ∀ a w, S a w → S' a w) (k : TrL ro P ops Q S' l) : TrL ro P ops Q S l := fun a w h => k a w (hs a w h)
theorem nmono {e : Exit} (hs : ∀ a w, S a w → S' a w) (k : TrN Q e S') : TrN Q e S := fun a w h => k a w (hs a w h)
end
end Go.Sx

end
section
set_option linter.unusedVariables false
set_option linter.unusedSimpArgs false
namespace Go.Sx
open Go Go.RowKit

inductive At {α : Type} (x : α) : Nat → List α → Prop
  | z {l} : At x 0 (x :: l)
  | s {i y l} : At x i l → At x (i + 1) (y :: l)
theorem At.get {α : Type} {x : α} : ∀ {i : Nat} {l : List α}, At x i l → l[i]? = some x
  | _, _, .z => rfl
  | _, _, .s h => by simpa using h.get
inductive SetAt {α : Type} (v : α) : Nat → List α → List α → Prop
  | z {x l} : SetAt v 0 (x :: l) (v :: l)
  | s {i x l l'} : SetAt v i l l' → SetAt v (i + 1) (x :: l) (x :: l')
theorem SetAt.eq {α : Type} {v : α} : ∀ {i : Nat} {l l' : List α}, SetAt v i l l' → l' = l.set i v ∧ i < l.length
  | _, _, _, .z => ⟨rfl, by simp⟩
  | _, _, _, .s h => by obtain ⟨rfl, h2⟩ := h.eq; exact ⟨rfl, by simpa using h2⟩
/-- a stretch of k elements from o on -/
inductive Cut {α : Type} : Nat → Nat → List α → List α → Prop
  | d {l} : Cut 0 0 l []
  | t {k x l r} : Cut 0 k l r → Cut 0 (k + 1) (x :: l) (x :: r)
  | s {o k x l r} : Cut o k l r → Cut (o + 1) k (x :: l) r
theorem Cut.eq {α : Type} : ∀ {o k : Nat} {l r : List α}, Cut o k l r → r = (l.drop o).take k ∧ o + k ≤ l.length
  | _, _, _, _, .d => by simp
  | _, _, _, _, .t h => by obtain ⟨h1, h2⟩ := h.eq; simp at h1 h2 ⊢; exact ⟨h1, h2⟩
  | _, _, _, _, .s h => by obtain ⟨h1, h2⟩ := h.eq; simp at h1 h2 ⊢; exact ⟨h1, by omega⟩
/-- a stretch laid from o on -/
inductive Put {α : Type} : Nat → List α → List α → List α → Prop
  | d {l} : Put 0 [] l l
  | t {v vs x l r} : Put 0 vs l r → Put 0 (v :: vs) (x :: l) (v :: r)
  | s {o vs x l r} : Put o vs l r → Put (o + 1) vs (x :: l) (x :: r)
theorem Put.eq {α : Type} : ∀ {o : Nat} {vs l r : List α}, Put o vs l r → r = l.take o ++ vs ++ l.drop (o + vs.length) ∧ o + vs.length ≤ l.length
  | _, _, _, _, .d => by simp
  | _, _, _, _, .t h => by
    obtain ⟨h1, h2⟩ := h.eq
    simp only [Nat.zero_add, List.take_zero, List.nil_append] at h1 h2
    simp [h1]; omega
  | _, _, _, _, .s h => by
    obtain ⟨h1, h2⟩ := h.eq
    refine ⟨?_, by simp; omega⟩
    rw [h1]
    simp [Nat.add_right_comm]

section
variable {ro : Option Nat} {P : Program} {M0 F0 : Nat → Prop} {w0 : World} {n : Nm} {σ : List (Nat × Value)} {Ξ : List Xsn} {Γ : List Asn} {d : Nat} {ty : TypeId} {pos : String} {af : Array Edge}

/-- an operation that leaves the world alone, and yields v in every world that meets T -/
def Pu (P : Program) (n : Nm) (σ : List (Nat × Value)) (T : World → Prop) (o : Oper) (v : Value) : Prop := ∀ a, Slots n σ a → ∀ w, T w → (execOp a.eval o).run P w = .ok (.value v) w
def Any : World → Prop := fun _ => True
/-- these cells hold these values -/
def Is (b o : Nat) (vs : List Value) (w : World) : Prop := ∀ j v, vs[j]? = some v → w.cell? ⟨b, o + j, none⟩ = some v
theorem op {o : Op} {v : Value} (h : Pu P n σ Any ⟨some d, o, ty, pos, af, none⟩ v) (hd : Nat.blt d n.n = true) : OpR P ⟨some d, o, ty, pos, af, none⟩ (St M0 F0 w0 n σ Ξ Γ) (St M0 F0 w0 n ((d, v) :: σ) Ξ Γ) :=
  OpR.of_run rfl fun a w ⟨hs, hh⟩ => ⟨v, w, h a hs w trivial, hs.put hd, hh⟩
theorem opT {o : Op} {v : Value} {T : World → Prop} (h : Pu P n σ T ⟨some d, o, ty, pos, af, none⟩ v) (hT : ∀ Fs w, Hp M0 F0 w0 Ξ Γ Fs w → T w) (hd : Nat.blt d n.n = true) : OpR P ⟨some d, o, ty, pos, af, none⟩ (St M0 F0 w0 n σ Ξ Γ) (St M0 F0 w0 n ((d, v) :: σ) Ξ Γ) :=
  OpR.of_run rfl fun a w ⟨hs, Fs, hh⟩ => ⟨v, w, h a hs w (hT Fs w hh), hs.put hd, Fs, hh⟩
theorem o_pure {op : Op} {v : Value} (hd : Nat.blt d n.n = true) (h : ∀ a, Slots n σ a → ∀ w, (∃ Fs, Hp M0 F0 w0 Ξ Γ Fs w) → (execOp a.eval ⟨some d, op, ty, pos, af, none⟩).run P w = .ok (.value v) w) :
    OpR P ⟨some d, op, ty, pos, af, none⟩ (St M0 F0 w0 n σ Ξ Γ) (St M0 F0 w0 n ((d, v) :: σ) Ξ Γ) :=
  OpR.of_run rfl fun a w ⟨hs, hh⟩ => ⟨v, w, h a hs w hh, hs.put hd, hh⟩

theorem p_move {T : World → Prop} {x : Operand} {v : Value} (hx : ev σ x = some v) : Pu P n σ T ⟨some d, .move x, ty, pos, af, none⟩ (v) :=
  fun a hs w _ => by simp [execOp, hs.ev hx]
theorem p_asg {T : World → Prop} {x : Operand} {v : Value} (hx : ev σ x = some v) : Pu P n σ T ⟨some d, .assign x, ty, pos, af, none⟩ (v) :=
  fun a hs w _ => by simp [execOp, hs.ev hx]
theorem p_pickt {T : World → Prop} {c x y : Operand} {v : Value} (hc : ev σ c = some (.bool true)) (hx : ev σ x = some v) : Pu P n σ T ⟨some d, .pick c x y, ty, pos, af, none⟩ (v) :=
  fun a hs w _ => by simp [execOp, hs.ev hc, hs.ev hx, asBool]
theorem p_pickf {T : World → Prop} {c x y : Operand} {v : Value} (hc : ev σ c = some (.bool false)) (hx : ev σ y = some v) : Pu P n σ T ⟨some d, .pick c x y, ty, pos, af, none⟩ (v) :=
  fun a hs w _ => by simp [execOp, hs.ev hc, hs.ev hx, asBool]
theorem p_ext {T : World → Prop} {x : Operand} {i : Nat} {vs : List Value} {v : Value} (hx : ev σ x = some (.tuple vs.toArray)) (hi : At v i vs) : Pu P n σ T ⟨some d, .extract x i, ty, pos, af, none⟩ (v) :=
  fun a hs w _ => by simp [execOp, hs.ev hx, Instr.extract, hi.get]

/-! integers -/
theorem p_add {T : World → Prop} {x y : Operand} {t t' : TypeId} {k b : Int} (hx : ev σ x = some (.int .i64 k)) (hy : ev σ y = some (.int .i64 b)) (hb : -9223372036854775808 ≤ k + b ∧ k + b < 9223372036854775808) : Pu P n σ T ⟨some d, .binOp .add t x y t', ty, pos, af, none⟩ (.int .i64 (k + b)) :=
  fun a hs w _ => by
    have := IntWalk.i64_in (k + b) (by omega)
    simp [execOp, hs.ev hx, hs.ev hy, eqGuard_add, binOp_add, Op.intArith, this]
theorem p_sub {T : World → Prop} {x y : Operand} {t t' : TypeId} {k b : Int} (hx : ev σ x = some (.int .i64 k)) (hy : ev σ y = some (.int .i64 b)) (hb : -9223372036854775808 ≤ k - b ∧ k - b < 9223372036854775808) : Pu P n σ T ⟨some d, .binOp .sub t x y t', ty, pos, af, none⟩ (.int .i64 (k - b)) :=
  fun a hs w _ => by
    have := IntWalk.i64_in (k - b) (by omega)
    simp [execOp, hs.ev hx, hs.ev hy, eqGuard_sub, binOp_sub, Op.intArith, this]
def icmp : BinOp → Int → Int → Option Bool
  | .eql, a, b => some (decide (a = b))
  | .neq, a, b => some (!decide (a = b))
  | .lss, a, b => some (decide (a < b))
  | .leq, a, b => some (decide (a ≤ b))
  | .gtr, a, b => some (decide (b < a))
  | .geq, a, b => some (decide (b ≤ a))
  | _, _, _ => none
theorem p_icmp {T : World → Prop} {op : BinOp} {x y : Operand} {t t' : TypeId} {kd : IntKind} {k b : Int} {r : Bool} (hx : ev σ x = some (.int kd k)) (hy : ev σ y = some (.int kd b)) (hr : icmp op k b = some r) : Pu P n σ T ⟨some d, .binOp op t x y t', ty, pos, af, none⟩ (.bool r) :=
  fun a hs w _ => by
    cases op <;> simp only [icmp, Option.some.injEq, reduceCtorEq] at hr <;> subst hr <;>
      simp [execOp, hs.ev hx, hs.ev hy, eqGuard_at_int, binOp_eql, binOp_neq, binOp_lss, binOp_leq, binOp_gtr, binOp_geq, bne, BEq.beq, eqGuard_lss, eqGuard_leq, eqGuard_gtr, eqGuard_geq]
theorem p_not {T : World → Prop} {x : Operand} {t : TypeId} {b : Bool} (hx : ev σ x = some (.bool b)) : Pu P n σ T ⟨some d, .unOp .not t x, ty, pos, af, none⟩ (.bool (!b)) :=
  fun a hs w _ => by simp [execOp, hs.ev hx, Op.unary]
/-! strings -/
theorem str_inj {s u : ByteArray} (h : s.toList = u.toList) : s = u := by
  rw [ByteArray.toList_eq, ByteArray.toList_eq] at h
  have : s.data = u.data := Array.ext' h
  cases s; cases u; simp_all
theorem str_beq (s u : ByteArray) : (s.toList == u.toList) = decide (s = u) := by
  by_cases h : s = u
  · subst h; simp
  · have h' : ¬ s.toList = u.toList := fun e => h (str_inj e)
    simp [h, h']
theorem p_seq {T : World → Prop} {x y : Operand} {t t' : TypeId} {s u : ByteArray} (hx : ev σ x = some (.string s)) (hy : ev σ y = some (.string u)) : Pu P n σ T ⟨some d, .binOp .eql t x y t', ty, pos, af, none⟩ (.bool (decide (s = u))) :=
  fun a hs w _ => by
    simp [execOp, hs.ev hx, hs.ev hy, eqGuard_at_string, binOp, Op.stringOp, str_beq]
theorem p_sne {T : World → Prop} {x y : Operand} {t t' : TypeId} {s u : ByteArray} (hx : ev σ x = some (.string s)) (hy : ev σ y = some (.string u)) : Pu P n σ T ⟨some d, .binOp .neq t x y t', ty, pos, af, none⟩ (.bool (!decide (s = u))) :=
  fun a hs w _ => by
    simp [execOp, hs.ev hx, hs.ev hy, eqGuard_at_string, binOp, Op.stringOp, str_beq]
theorem p_lens {T : World → Prop} {x : Operand} {t : TypeId} {s : ByteArray} (hx : ev σ x = some (.string s)) (ht : P.underlying t = some .string) : Pu P n σ T ⟨some d, .call ⟨.builtin .len, #[x], #[t]⟩, ty, pos, af, none⟩ (.int .i64 (s.size : Int)) :=
  fun a hs w _ => by simp [execOp, resolve, invoke, builtin, hs.ev hx, Builtin.len_, run_underlying ht, goInt]
theorem p_lenl {T : World → Prop} {x : Operand} {t e : TypeId} {A : Option Addr} {l c : Nat} (hx : ev σ x = some (.slice A l c)) (ht : P.underlying t = some (.slice e)) : Pu P n σ T ⟨some d, .call ⟨.builtin .len, #[x], #[t]⟩, ty, pos, af, none⟩ (.int .i64 (l : Int)) :=
  fun a hs w _ => by simp [execOp, resolve, invoke, builtin, hs.ev hx, Builtin.len_, run_underlying ht, goInt]

/-! variables in memory -/
theorem o_box {x : Operand} {t : TypeId} {v : Value} {cs : List Value} (hx : ev σ x = some v) (hc : v.cells = cs.toArray) (hd : Nat.blt d n.n = true) :
    OpR P ⟨some d, .box t x, ty, pos, af, none⟩ (St M0 F0 w0 n σ Ξ Γ) (fun a w => ∃ b, St M0 F0 w0 n ((d, .pointer (some ⟨b, 0, none⟩)) :: σ) (box b t cs :: Ξ) Γ a w) :=
  OpR.of_run rfl fun a w ⟨hs, Fs, hh⟩ => by
    obtain ⟨Fs', hh'⟩ := hh.alloc t cs
    exact ⟨_, w.alloc (.cells cs.toArray t), by simp [execOp, hs.ev hx, Instr.box, newVar, newRow, hc], w.heap.size, hs.put hd, Fs', hh'⟩
theorem o_alloc {t : TypeId} {z : Value} {cs : List Value} (hz : ∀ w, (zeroValue t).run P w = .ok z w) (hc : z.cells = cs.toArray) (hd : Nat.blt d n.n = true) :
    OpR P ⟨some d, .alloc t, ty, pos, af, none⟩ (St M0 F0 w0 n σ Ξ Γ) (fun a w => ∃ b, St M0 F0 w0 n ((d, .pointer (some ⟨b, 0, none⟩)) :: σ) (box b t cs :: Ξ) Γ a w) :=
  OpR.of_run rfl fun a w ⟨hs, Fs, hh⟩ => by
    obtain ⟨Fs', hh'⟩ := hh.alloc t cs
    exact ⟨_, w.alloc (.cells cs.toArray t), by simp [execOp, Instr.alloc, hz, newVar, newRow, hc], w.heap.size, hs.put hd, Fs', hh'⟩
/-- the place of a field -/
def FA (P : Program) (s : TypeId) (f k : Nat) : Prop := ∀ b o w, (Instr.fieldAt s (.pointer (some ⟨b, o, none⟩)) f).run P w = .ok (.pointer (some ⟨b, o + k, none⟩)) w
theorem p_fa {T : World → Prop} {x : Operand} {s : TypeId} {f k b o : Nat} (hf : FA P s f k) (hx : ev σ x = some (.pointer (some ⟨b, o, none⟩))) : Pu P n σ T ⟨some d, .fieldAddr s x f, ty, pos, af, none⟩ (.pointer (some ⟨b, o + k, none⟩)) :=
  fun a hs w _ => by simp [execOp, hs.ev hx, hf b o w]
theorem cell_of {w : World} {b : Nat} {t : TypeId} {cs : List Value} (h : w.heap[b]? = some (.cells cs.toArray t (0, 0))) (j : Nat) : w.cell? ⟨b, j, none⟩ = cs[j]? := by
  simp [World.cell?, h]
/-- one cell is read -/
theorem p_ld {x : Operand} {t : TypeId} {b o : Nat} {v : Value} (hag : ∀ w, (isAgg t).run P w = .ok false w) (hx : ev σ x = some (.pointer (some ⟨b, o, none⟩))) : Pu P n σ (Is b o [v]) ⟨some d, .load t x, ty, pos, af, none⟩ v :=
  fun a hs w hT => by
    have hc := hT 0 v rfl
    simp only [Nat.add_zero] at hc
    simp [execOp, hs.ev hx, Instr.loadAt, Instr.sureAddr, loadVar, hag, hc]
/-- a whole struct is read -/
theorem p_lda {x : Operand} {t : TypeId} {b o k : Nat} {r : List Value} (hag : ∀ w, (isAgg t).run P w = .ok true w) (hsz : ∀ w, (sizeOf t).run P w = .ok k w) (hx : ev σ x = some (.pointer (some ⟨b, o, none⟩))) (hk : r.length = k) :
    Pu P n σ (Is b o r) ⟨some d, .load t x, ty, pos, af, none⟩ (.agg r.toArray) :=
  fun a hs w hT => by
    have hr := run_loadCells_list (P := P) w ⟨b, o, none⟩ r (fun j v hj => by rw [Addr.add_lit]; exact hT j v hj)
    rw [hk] at hr
    simp [execOp, hs.ev hx, Instr.loadAt, Instr.sureAddr, loadVar, hag, hsz, hr]
/-- what a variable's cells hold -/
theorem isBox {i b o k : Nat} {bt : TypeId} {cs r : List Value} (hi : At (box b bt cs) i Ξ) (hv : Cut o k cs r) : ∀ Fs w, Hp M0 F0 w0 Ξ Γ Fs w → Is b o r w := by
  intro Fs w hh j v hj
  obtain ⟨rfl, hle⟩ := hv.eq
  have hjk : j < k := by have := (List.getElem?_eq_some_iff.1 hj).1; simp at this; omega
  rw [cell_of (hh.cell hi.get)]
  rw [List.getElem?_take_of_lt hjk, List.getElem?_drop] at hj
  exact hj
theorem Cut.length {α : Type} {o k : Nat} {l r : List α} (h : Cut o k l r) : r.length = k := by
  obtain ⟨rfl, h2⟩ := h.eq; simp; omega
theorem Cut.all {α : Type} (l : List α) : Cut 0 l.length l l := by
  induction l with
  | nil => exact .d
  | cons x l ih => exact .t ih
theorem o_ld {x : Operand} {t : TypeId} {i b o : Nat} {bt : TypeId} {cs : List Value} {v : Value} (hag : ∀ w, (isAgg t).run P w = .ok false w) (hx : ev σ x = some (.pointer (some ⟨b, o, none⟩))) (hi : At (box b bt cs) i Ξ) (hv : At v o cs) (hd : Nat.blt d n.n = true) :
    OpR P ⟨some d, .load t x, ty, pos, af, none⟩ (St M0 F0 w0 n σ Ξ Γ) (St M0 F0 w0 n ((d, v) :: σ) Ξ Γ) :=
  opT (p_ld hag hx) (fun Fs w hh j u hj => by
    have hj0 : j = 0 := by have := (List.getElem?_eq_some_iff.1 hj).1; simp at this; omega
    subst hj0
    rw [cell_of (hh.cell hi.get), Nat.add_zero, hv.get]; simpa using hj) hd
theorem o_lda {x : Operand} {t : TypeId} {i b o k : Nat} {bt : TypeId} {cs r : List Value} (hag : ∀ w, (isAgg t).run P w = .ok true w) (hsz : ∀ w, (sizeOf t).run P w = .ok k w) (hx : ev σ x = some (.pointer (some ⟨b, o, none⟩))) (hi : At (box b bt cs) i Ξ) (hv : Cut o k cs r) (hd : Nat.blt d n.n = true) :
    OpR P ⟨some d, .load t x, ty, pos, af, none⟩ (St M0 F0 w0 n σ Ξ Γ) (St M0 F0 w0 n ((d, .agg r.toArray) :: σ) Ξ Γ) :=
  opT (p_lda hag hsz hx hv.length) (isBox hi hv) hd
/-- the whole of a variable -/
theorem o_ldw {x : Operand} {t : TypeId} {i b k : Nat} {bt : TypeId} {cs : List Value} (hag : ∀ w, (isAgg t).run P w = .ok true w) (hsz : ∀ w, (sizeOf t).run P w = .ok k w) (hx : ev σ x = some (.pointer (some ⟨b, 0, none⟩))) (hi : At (box b bt cs) i Ξ) (hk : cs.length = k) (hd : Nat.blt d n.n = true) :
    OpR P ⟨some d, .load t x, ty, pos, af, none⟩ (St M0 F0 w0 n σ Ξ Γ) (St M0 F0 w0 n ((d, .agg cs.toArray) :: σ) Ξ Γ) :=
  o_lda hag hsz hx hi (hk ▸ Cut.all cs) hd
/-- a value is laid -/
theorem o_st {dst : Option Nat} {x y : Operand} {t : TypeId} {i b o k : Nat} {bt : TypeId} {cs vs cs' : List Value} {v : Value} {Ξ' : List Xsn} (hdst : dst = none) (hsz : ∀ w, (sizeOf t).run P w = .ok k w) (hx : ev σ x = some (.pointer (some ⟨b, o, none⟩))) (hy : ev σ y = some v) (hvc : v.cells = vs.toArray) (hk : vs.length = k)
    (h1 : vs.all Value.oneCell' = true) (hi : At (box b bt cs) i Ξ) (hp : Put o vs cs cs') (hs' : SetAt (box b bt cs') i Ξ Ξ') :
    OpR P ⟨dst, .store t x y, ty, pos, af, none⟩ (St M0 F0 w0 n σ Ξ Γ) (St M0 F0 w0 n σ Ξ' Γ) := by
  subst hdst
  subst hk
  refine OpR.of_skip rfl fun a w ⟨hs, Fs, hh⟩ => ?_
  obtain ⟨rfl, hle⟩ := hp.eq
  obtain ⟨rfl, _⟩ := hs'.eq
  have hst := run_storeCells_at P b o bt vs 0 cs.toArray w (hh.cell hi.get) (by simpa using hle) (fun v hv => List.all_eq_true.1 h1 v hv)
  refine ⟨_, ?_, hs, Fs, hh.setBox hi.get _⟩
  simp only [execOp, hs.ev hx, hs.ev hy, Instr.storeAt, Instr.sureAddr, storeVar, Sem.run_bind, Sem.run_pure, Result.andThen_ok, hsz, hvc, List.size_toArray, ne_eq, not_true_eq_false, if_false]
  simp only [Nat.add_zero] at hst
  simp [hst]

/-! a struct or an array is built -/
inductive Fill (pl : List (Nat × Nat)) : List (Nat × Value) → List Value → List Value → Prop
  | d {cs} : Fill pl [] cs cs
  | t {i o k v vs rest cs cs1 cs2} : At (o, k) i pl → v.cells = vs.toArray → vs.length = k → Put o vs cs cs1 → Fill pl rest cs1 cs2 → Fill pl ((i, v) :: rest) cs cs2
theorem foldl_put : ∀ (vs : List Value) (j o : Nat) (cs : Array Value), o + j + vs.length ≤ cs.size →
    (vs.zipIdx j).foldl (fun cs (x : Value × Nat) => cs.setIfInBounds (o + x.2) x.1) cs = (cs.toList.take (o + j) ++ vs ++ cs.toList.drop (o + j + vs.length)).toArray
  | [], j, o, cs, _ => by simp
  | v :: vs, j, o, cs, h => by
    simp only [List.length_cons] at h
    simp only [List.zipIdx_cons, List.foldl_cons]
    rw [foldl_put vs (j + 1) o _ (by simp; omega)]
    congr 1
    have e := list_seg_step cs.toList (o + j) v vs (by simp; omega)
    simpa [Array.toList_setIfInBounds, Nat.add_assoc] using e
theorem Fill.run {pl : List (Nat × Nat)} {ps : List (Nat × Value)} {cs cs' : List Value} (h : Fill pl ps cs cs') : Instr.fill (pl[·]?) cs.toArray ps = some cs'.toArray := by
  induction h with
  | d => rfl
  | @t i o k v vs rest cs cs1 cs2 hi hv hk hp hr ih =>
    obtain ⟨rfl, hle⟩ := hp.eq
    subst hk
    unfold Instr.fill
    simp only [hi.get, hv, List.size_toArray, ne_eq, not_true_eq_false, false_or]
    have hno : ¬ (o + vs.length > cs.length) := by omega
    simp only [hno, if_false]
    rw [← ih]
    have h1 := foldl_put vs 0 o cs.toArray (by simpa using hle)
    have h2 : vs.toArray.zipIdx = (vs.zipIdx).toArray := by
      apply Array.ext'
      simp
    rw [h2]
    have h3 := congrArg (fun z => Instr.fill (pl[·]?) z rest) h1
    simpa using h3
end
end Go.Sx

end
section
set_option linter.unusedVariables false
set_option linter.unusedSimpArgs false
namespace Go.Sx
open Go Go.RowKit

/-! ### data -/
/-- how a kind of data lies in cells: by a layout -/
class Rp (α : Type) where
  Lay : Type
  size : Nat
  enc : α → Lay → List Value
  len : ∀ x y, (enc x y).length = size
  one : ∀ x y, ∀ v ∈ enc x y, v.oneCell' = true
  asn : α → Lay → List Asn

/-- a slice's elements, as they lie -/
def slA {α : Type} [Rp α] (A : Option Addr) (l : List α) : Asn where
  p M w := ∀ j x, l[j]? = some x → ∃ b o y, A = some ⟨b, o, none⟩ ∧ ¬ M b ∧ b < w.heap.size ∧
    (∀ i v, (Rp.enc x y)[i]? = some v → w.cell? ⟨b, o + j * Rp.size α + i, none⟩ = some v) ∧ ∀ p ∈ Rp.asn x y, p.p M w
  st := by
    intro M M' w w' h hb hm hs j x hj
    obtain ⟨b, o, y, hA, hM, hlt, hc, ha⟩ := h j x hj
    refine ⟨b, o, y, hA, fun h' => hM (hm b hlt h'), Nat.lt_of_lt_of_le hlt hs, fun i v hi => ?_, fun p hp => p.st _ _ _ _ (ha p hp) hb hm hs⟩
    rw [World.cell?_of_block (w := w) (hb b hlt hM)]
    exact hc i v hi

instance : Rp ByteArray where
  Lay := Unit
  size := 1
  enc x _ := [.string x]
  len _ _ := rfl
  one _ _ v hv := by
    simp only [List.mem_cons, List.mem_nil_iff, or_false] at hv
    subst hv; rfl
  asn _ _ := []
instance instRpInt : Rp Int where
  Lay := Unit
  size := 1
  enc x _ := [.int .i64 x]
  len _ _ := rfl
  one _ _ v hv := by
    simp only [List.mem_cons, List.mem_nil_iff, or_false] at hv
    subst hv; rfl
  asn _ _ := []
instance : Rp Bool where
  Lay := Unit
  size := 1
  enc x _ := [.bool x]
  len _ _ := rfl
  one _ _ v hv := by
    simp only [List.mem_cons, List.mem_nil_iff, or_false] at hv
    subst hv; rfl
  asn _ _ := []
/-- a slice of nothing has no room -/
def nilA (y : Option Addr × Nat) : Asn where
  p _ _ := y.1 = none → y.2 = 0
  st := fun _ _ _ _ h _ _ _ => h
instance instRpList {α : Type} [Rp α] : Rp (List α) where
  Lay := Option Addr × Nat
  size := 1
  enc l y := [.slice y.1 l.length y.2]
  len _ _ := rfl
  one _ _ v hv := by
    simp only [List.mem_cons, List.mem_nil_iff, or_false] at hv
    subst hv; rfl
  asn l y := [slA y.1 l, nilA y]

/-- facts that are among those that stand -/
inductive In {α : Type} (x : α) : List α → Prop
  | z {l} : In x (x :: l)
  | s {y l} : In x l → In x (y :: l)
theorem In.mem {α : Type} {x : α} {l : List α} (h : In x l) : x ∈ l := by
  induction h with
  | z => exact List.mem_cons_self
  | s _ ih => exact List.mem_cons_of_mem _ ih
inductive Sub : List Asn → List Asn → Prop
  | d {Γ} : Sub [] Γ
  | s {g r Γ} : In g Γ → Sub r Γ → Sub (g :: r) Γ
theorem Sub.mem {Γi Γ : List Asn} (h : Sub Γi Γ) : ∀ p ∈ Γi, p ∈ Γ := by
  induction h with
  | d => intro p hp; cases hp
  | s hi _ ih =>
    intro p hp
    cases hp with
    | head => exact hi.mem
    | tail _ hp => exact ih p hp

/-- the facts behind some others -/
inductive Suf (Γi : List Asn) : List Asn → Prop
  | z : Suf Γi Γi
  | s {g Γ} : Suf Γi Γ → Suf Γi (g :: Γ)
theorem Suf.mem {Γi Γ : List Asn} (h : Suf Γi Γ) : ∀ p ∈ Γi, p ∈ Γ := by
  induction h with
  | z => exact fun _ h => h
  | s _ ih => exact fun p hp => List.mem_cons_of_mem _ (ih p hp)
theorem Sub.mk : ∀ {Γi Γ : List Asn}, (∀ p ∈ Γi, p ∈ Γ) → Sub Γi Γ
  | [], _, _ => .d
  | g :: r, Γ, h => .s (go (h g (by simp))) (Sub.mk fun p hp => h p (by simp [hp]))
where go {g : Asn} : ∀ {Γ : List Asn}, g ∈ Γ → In g Γ
  | _ :: _, h => by
    rcases List.mem_cons.1 h with e | h
    · rw [← e]; exact In.z
    · exact In.s (go h)
theorem Sub.suf {Γi Γ : List Asn} (h : Suf Γi Γ) : Sub Γi Γ := Sub.mk h.mem
theorem Sub.app {Γ1 Γ2 Γ : List Asn} (h1 : Sub Γ1 Γ) (h2 : Sub Γ2 Γ) : Sub (Γ1 ++ Γ2) Γ := Sub.mk fun p hp => (List.mem_append.1 hp).elim (h1.mem p) (h2.mem p)

section
variable {ro : Option Nat} {P : Program} {M0 F0 : Nat → Prop} {w0 : World} {n : Nm} {σ : List (Nat × Value)} {Ξ : List Xsn} {Γ : List Asn} {d : Nat} {ty : TypeId} {pos : String} {af : Array Edge}
variable {ops : Array Oper} {Q : Exit → Act → World → Prop}

/-! a call -/
theorem o_call {f : FuncId} {args : List Operand} {tys : Array TypeId} {vs : List Value} {Ξi Ξ' : List Xsn} {Γi : List Asn} {X : Type} {rv : X → Value} {Ξo : X → List Xsn} {Γo : X → List Asn} {is : List Nat}
    (hcf : ∀ args w, (callFunc f args).run P w = .ok (.enter f args) w) (hc : Con P f vs Ξi Γi X rv Ξo Γo) (ha : evL σ args = some vs) (hs : takeAll is Ξ = some (Ξi, Ξ')) (hg : Sub Γi Γ) (hd : Nat.blt d n.n = true) :
    OpR P ⟨some d, .call ⟨.value (.func f), args.toArray, tys⟩, ty, pos, af, none⟩ (St M0 F0 w0 n σ Ξ Γ) (fun a w => ∃ x, St M0 F0 w0 n ((d, rv x) :: σ) (Ξo x ++ Ξ') (Γo x ++ Γ) a w) := by
  refine OpR.of_enter rfl fun a w ⟨hsl, Fs, hh⟩ => ⟨f, vs.toArray, ?_, ?_⟩
  · have hm := hsl.evL ha
    have : args.toArray.map a.eval = vs.toArray := by simp [hm]
    simp [execOp, resolve, Deferred.ofValue, invoke, Act.eval, this, hcf]
  · obtain ⟨Gs, Hs, hp, hin, hr⟩ := hh.select hs hg.mem
    refine (hc _ Gs w hin).mono ?_
    rintro e w' ⟨x, Fs', rfl, hout⟩
    exact ⟨_, rfl, x, hsl.put hd, _, hh.back hp hr hout⟩
/-- a call through a function value -/
theorem o_callv {fx : Operand} {g : FuncId} {fst cap : List Value} {args : List Operand} {tys : Array TypeId} {vs vs' : List Value} {Ξi Ξ' : List Xsn} {Γi : List Asn} {X : Type} {rv : X → Value} {Ξo : X → List Xsn} {Γo : X → List Asn} {is : List Nat}
    (hf : ev σ fx = some (.func (.func g) fst.toArray cap.toArray)) (hcf : ∀ args w, (callFunc g args).run P w = .ok (.enter g args) w) (hc : Con P g vs' Ξi Γi X rv Ξo Γo) (ha : evL σ args = some vs) (hv : fst ++ vs ++ cap = vs') (hs : takeAll is Ξ = some (Ξi, Ξ')) (hg : Sub Γi Γ) (hd : Nat.blt d n.n = true) :
    OpR P ⟨some d, .call ⟨.value fx, args.toArray, tys⟩, ty, pos, af, none⟩ (St M0 F0 w0 n σ Ξ Γ) (fun a w => ∃ x, St M0 F0 w0 n ((d, rv x) :: σ) (Ξo x ++ Ξ') (Γo x ++ Γ) a w) := by
  subst hv
  refine OpR.of_enter rfl fun a w ⟨hsl, Fs, hh⟩ => ⟨g, (fst ++ vs ++ cap).toArray, ?_, ?_⟩
  · have hm := hsl.evL ha
    have : args.toArray.map a.eval = vs.toArray := by simp [hm]
    simp [execOp, resolve, Deferred.ofValue, invoke, hsl.ev hf, this, hcf]
  · obtain ⟨Gs, Hs, hp, hin, hr⟩ := hh.select hs hg.mem
    refine (hc _ Gs w hin).mono ?_
    rintro e w' ⟨x, Fs', rfl, hout⟩
    exact ⟨_, rfl, x, hsl.put hd, _, hh.back hp hr hout⟩

/-! the guard -/
theorem lskip {d' j : Nat} {want b : Bool} {op : Op} {l : List Oper} {t : Nat} {o' : Oper} (hj : ops[j]? = some o') (ht : o'.dst = some t) (hb : look σ t = some (.bool b)) (hne : (b == want) = false) (hd : Nat.blt d' n.n = true)
    (k : TrL ro P ops Q (St M0 F0 w0 n ((d', undef) :: σ) Ξ Γ) l) : TrL ro P ops Q (St M0 F0 w0 n σ Ξ Γ) (⟨some d', op, ty, pos, af, some (j, want)⟩ :: l) := by
  intro a w hS
  obtain ⟨hs, hh⟩ := hS
  have hy : yielded ops a.tmps j = some b := by
    have := hs.val t _ hb
    have h2 : a.tmps[t]? = some (.bool b) := by
      cases h : a.tmps[t]? with
      | none => simp [Array.getD_eq_getD_getElem?, h, undef] at this
      | some v => simpa [Array.getD_eq_getD_getElem?, h] using this
    simp [yielded, hj, ht, h2]
  unfold wpListIn
  rw [if_neg (by simp [Region.wanted, hy, hne])]
  exact ⟨fun _ _ => trivial, k _ _ ⟨hs.put hd, hh⟩⟩
theorem lwant {dst : Option Nat} {j : Nat} {want b : Bool} {op : Op} {l : List Oper} {t : Nat} {o' : Oper} {S' : Act → World → Prop} (hj : ops[j]? = some o') (ht : o'.dst = some t) (hb : look σ t = some (.bool b)) (he : (b == want) = true)
    (h : OpR P ⟨dst, op, ty, pos, af, none⟩ (St M0 F0 w0 n σ Ξ Γ) S') (k : TrL ro P ops Q S' l) : TrL ro P ops Q (St M0 F0 w0 n σ Ξ Γ) (⟨dst, op, ty, pos, af, some (j, want)⟩ :: l) := by
  intro a w hS
  obtain ⟨hs, hh⟩ := hS
  have hy : yielded ops a.tmps j = some b := by
    have := hs.val t _ hb
    have h2 : a.tmps[t]? = some (.bool b) := by
      cases h : a.tmps[t]? with
      | none => simp [Array.getD_eq_getD_getElem?, h, undef] at this
      | some v => simpa [Array.getD_eq_getD_getElem?, h] using this
    simp [yielded, hj, ht, h2]
  unfold wpListIn
  rw [if_pos (by simpa [Region.wanted, hy] using he)]
  obtain ⟨hg, hw⟩ := h (wpListIn (Fr ro) 0 P ops Q l) Q a w ⟨hs, hh⟩ k
  exact hw ro

/-! ways -/
theorem splitL {l : List Oper} (t : Nat) {b : Bool} (ht : look σ t = some (.bool b)) (hT : b = true → TrL ro P ops Q (St M0 F0 w0 n ((t, .bool true) :: σ) Ξ Γ) l) (hF : b = false → TrL ro P ops Q (St M0 F0 w0 n ((t, .bool false) :: σ) Ξ Γ) l) :
    TrL ro P ops Q (St M0 F0 w0 n σ Ξ Γ) l := by
  have up : ∀ a, Slots n σ a → Slots n ((t, .bool b) :: σ) a := fun a h => h.sub (by
    intro u v hu
    simp only [look] at hu
    split at hu
    · rename_i e
      have e' : t = u := Nat.eq_of_beq_eq_true e
      subst e'; cases hu; exact ht
    · exact hu)
  cases b with
  | true => exact fun a w ⟨hs, hh⟩ => hT rfl a w ⟨up a hs, hh⟩
  | false => exact fun a w ⟨hs, hh⟩ => hF rfl a w ⟨up a hs, hh⟩
theorem cc {c : Operand} {x y : Code} {b : Bool} (hc : ev σ c = some (.bool b)) (hT : b = true → TrC ro P Q (St M0 F0 w0 n σ Ξ Γ) x) (hF : b = false → TrC ro P Q (St M0 F0 w0 n σ Ξ Γ) y) : TrC ro P Q (St M0 F0 w0 n σ Ξ Γ) (.cond c x y) := by
  intro a w hS
  have he := hS.1.ev hc
  cases b with
  | true => exact wpIn_cond_true he (hT rfl a w hS)
  | false => exact wpIn_cond_false he (hF rfl a w hS)
/-- a fact is opened -/
theorem openΓ {g : Asn} {i : Nat} {Y : Type} {φ : Y → Prop} {Γy : Y → List Asn} {a : Act} {w : World} (hi : At g i Γ) (h : ∀ M w, g.p M w → ∃ y, φ y ∧ ∀ p ∈ Γy y, p.p M w) (hS : St M0 F0 w0 n σ Ξ Γ a w) : ∃ y, φ y ∧ St M0 F0 w0 n σ Ξ (Γy y ++ Γ) a w := by
  obtain ⟨hs, Fs, hh⟩ := hS
  obtain ⟨y, hy, hp⟩ := h _ w (hh.ga g (List.mem_of_getElem? hi.get))
  refine ⟨y, hy, hs, Fs, { hh with ga := fun p hp' => ?_ }⟩
  rcases List.mem_append.1 hp' with h1 | h1
  · exact hp p h1
  · exact hh.ga p h1

/-! leaving and forgetting -/
theorem Hp.drop {M0 F0 w0 Ξ Γ Fs w} (h : Hp M0 F0 w0 Ξ Γ Fs w) {is : List Nat} {xs Ξ' : List Xsn} {Γi : List Asn} (hs : takeAll is Ξ = some (xs, Ξ')) (hg : Sub Γi Γ) : ∃ Gs, Hp M0 F0 w0 xs Γi Gs w := by
  obtain ⟨Gs, Hs, hp, hin, _⟩ := h.select hs hg.mem
  have hown : ∀ b, own Fs b ↔ own Gs b ∨ own Hs b := fun b => (own_perm hp b).trans own_append
  have hM : ∀ b, b < w.heap.size → (M0 b ∨ own Gs b) → ((M0 b ∨ own Hs b) ∨ own Gs b) := fun b _ hm => hm.elim (fun h => .inl (.inl h)) .inr
  exact ⟨Gs, hin.ex.st (fun _ _ _ => rfl) hM (Nat.le_refl _), hin.dis, fun b hb => h.dis0 b ((hown b).2 (.inl hb)), hin.lt, fun b hb => h.old b ((hown b).2 (.inl hb)),
    fun p hp' => p.st _ _ _ _ (hin.ga p hp') (fun _ _ _ => rfl) hM (Nat.le_refl _), h.up, h.m0, h.f0⟩
theorem wk {σ' : List (Nat × Value)} {is : List Nat} {Ξ' Ξr : List Xsn} {Γ' : List Asn} (hσ : subσ σ σ') (hs : takeAll is Ξ = some (Ξ', Ξr)) (hg : Sub Γ' Γ) : ∀ a w, St M0 F0 w0 n σ Ξ Γ a w → St M0 F0 w0 n σ' Ξ' Γ' a w := by
  rintro a w ⟨hsl, Fs, hh⟩
  obtain ⟨Gs, hh'⟩ := hh.drop hs hg
  exact ⟨hsl.sub hσ, Gs, hh'⟩

/-- the results, as they stand -/
inductive Res (P : Program) (σ : List (Nat × Value)) (Ξ : List Xsn) : List ResultVar → List Value → Prop
  | d : Res P σ Ξ [] []
  | t {t v rs vs} : look σ t = some v → Res P σ Ξ rs vs → Res P σ Ξ (.tmp t :: rs) (v :: vs)
  | c {t ty b bt cs i k rs vs} : look σ t = some (.pointer (some ⟨b, 0, none⟩)) → (∀ w, (isAgg ty).run P w = .ok true w) → (∀ w, (sizeOf ty).run P w = .ok k w) → At (box b bt cs) i Ξ → cs.length = k → Res P σ Ξ rs vs → Res P σ Ξ (.cell t ty :: rs) (.agg cs.toArray :: vs)
  | c1 {t ty b bt v i rs vs} : look σ t = some (.pointer (some ⟨b, 0, none⟩)) → (∀ w, (isAgg ty).run P w = .ok false w) → At (box b bt [v]) i Ξ → Res P σ Ξ rs vs → Res P σ Ξ (.cell t ty :: rs) (v :: vs)
def packV : List Value → Value
  | [v] => v
  | vs => .tuple vs.toArray
def resVar (tmps : Array Value) : ResultVar → Sem Value
  | .tmp t => pure (tmps.getD t undef)
  | .cell p t => do loadVar t (← asAddr (tmps.getD p undef))
theorem Res.run {rs : List ResultVar} {vs : List Value} {a : Act} {w : World} {Fs} (h : Res P σ Ξ rs vs) (hs : Slots n σ a) (hh : Hp M0 F0 w0 Ξ Γ Fs w) : (rs.mapM (resVar a.tmps)).run P w = .ok vs w := by
  induction h with
  | d => rfl
  | t ht _ ih =>
    have := hs.val _ _ ht
    simp only [List.mapM_cons, resVar, Sem.run_bind, Sem.run_pure, Result.andThen_ok, this, ih]
  | @c t ty b bt cs i k rs vs ht hag hsz hi hk _ ih =>
    subst hk
    have h1 := hs.val _ _ ht
    have hr := run_loadCells_list (P := P) w ⟨b, 0, none⟩ cs (fun j v hj => by rw [Addr.add_lit, Nat.zero_add, cell_of (hh.cell hi.get)]; exact hj)
    have h2 : (loadVar ty ⟨b, 0, none⟩).run P w = .ok (.agg cs.toArray) w := by simp [loadVar, hag, hsz, hr]
    simp [List.mapM_cons, resVar, h1, asAddr, h2, ih]
  | @c1 t ty b bt v i rs vs ht hag hi _ ih =>
    have h1 := hs.val _ _ ht
    have hc := cell_of (hh.cell hi.get) 0
    have h2 : (loadVar ty ⟨b, 0, none⟩).run P w = .ok v w := by simp [loadVar, hag, hc]
    simp [List.mapM_cons, resVar, h1, asAddr, h2, ih]
theorem run_results {fn : Func} {a : Act} {w : World} {vs : List Value} (h : (fn.results.toList.mapM (resVar a.tmps)).run P w = .ok vs w) :
    (results fn a.tmps).run P w = .ok (packV vs) w := by
  have e : results fn a.tmps = (fn.results.mapM (resVar a.tmps)) >>= fun vs => pure (if h : vs.size = 1 then vs[0] else .tuple vs) := by
    unfold results
    congr 1
  rw [e, Array.mapM_eq_mapM_toList]
  simp only [Sem.run_bind, Sem.run_map, h, Result.andThen_ok]
  match vs with
  | [] => rfl
  | [v] => rfl
  | v :: u :: r => simp [packV]
/-- a function's end -/
def Post (P : Program) {X : Type} (rv : X → Value) (Ξo : X → List Xsn) (Γo : X → List Asn) (M0 F0 : Nat → Prop) (w0 : World) : Ending → World → Prop :=
  fun e w' => ∃ x Fs', e = .returned (rv x) ∧ Hp M0 F0 w0 (Ξo x) (Γo x) Fs' w'
theorem rret {fn : Func} {X : Type} {rv : X → Value} {Ξo : X → List Xsn} {Γo : X → List Asn} (x : X) {is : List Nat} {Ξr : List Xsn} {vs : List Value} {e : Exit} (he : e = .ret ∨ e = .normal) (hr : Res P σ Ξ fn.results.toList vs) (hv : packV vs = rv x)
    (hs : takeAll is Ξ = some (Ξo x, Ξr)) (hg : Sub (Γo x) Γ) (hds : n.ds = [] := by rfl) : TrN (BP P fn (Post P rv Ξo Γo M0 F0 w0)) e (St M0 F0 w0 n σ Ξ Γ) := by
  rintro a w ⟨hsl, Fs, hh⟩
  have h1 := run_results (hr.run hsl hh)
  obtain ⟨Gs, hh'⟩ := hh.drop hs hg
  rw [hv] at h1
  rcases he with rfl | rfl
  · show LeavesInM _ _ _ _ _ _ a.defers _ _
    rw [hsl.defers, hds]
    exact ⟨_, h1, x, Gs, rfl, hh'⟩
  · show LeavesInM _ _ _ _ _ _ a.defers _ _
    rw [hsl.defers, hds]
    exact ⟨_, h1, x, Gs, rfl, hh'⟩

/-- a function's begin -/
def initσ : Nat → List Value → List (Nat × Value)
  | _, [] => []
  | k, v :: vs => (k, v) :: initσ (k + 1) vs
theorem look_init : ∀ (vs : List Value) (k t : Nat) (v : Value), look (initσ k vs) t = some v → k ≤ t ∧ vs[t - k]? = some v
  | [], k, t, v, h => by cases h
  | u :: vs, k, t, v, h => by
    simp only [initσ, look] at h
    split at h
    · rename_i e
      have e' : k = t := Nat.eq_of_beq_eq_true e
      subst e'; cases h; simp
    · have := look_init vs (k + 1) t v h
      refine ⟨by omega, ?_⟩
      rw [show t - k = (t - (k + 1)) + 1 by omega]
      simpa using this.2
theorem con {n : Nat} {f : FuncId} {fn : Func} {c : Code} {vs : List Value} {Ξi : List Xsn} {Γi : List Asn} {X : Type} {rv : X → Value} {Ξo : X → List Xsn} {Γo : X → List Asn}
    (hf : P.funcs[f]? = some fn) (hb : fn.body = some c) (hn : fn.ntmps = n) (hl : Nat.ble vs.length n = true)
    (h : ∀ M0 F0 w0, TrC none P (BP P fn (Post P rv Ξo Γo M0 F0 w0)) (St M0 F0 w0 ⟨n, []⟩ (initσ 0 vs) Ξi Γi) c) : Con P f vs Ξi Γi X rv Ξo Γo := by
  intro M0 Fs w hh
  have hl' : vs.length ≤ n := by simpa [Nat.ble_eq] using hl
  refine (callsIn_wide (n := 0)).1 (callsIn_of_wp_marks hf hb trivial (wpIn_mono (h M0 (own Fs) w _ _ ⟨⟨rfl, ?_, ?_⟩, Fs, hh⟩) BP.post))
  · simp [hn]; omega
  · intro t v ht
    have := (look_init vs 0 t v ht).2
    simp only [Nat.sub_zero] at this
    have hlt : t < vs.length := (List.getElem?_eq_some_iff.1 this).1
    have h2 : vs[t] = v := (List.getElem?_eq_some_iff.1 this).2
    simp [Array.getD_eq_getD_getElem?, Array.getElem?_append, hlt, h2]

/-- a loop -/
theorem cl {ι : Type} {S : Act → World → Prop} {c : Code} (I : ι → Act → World → Prop) (m : ι → Nat) (i0 : ι) (h0 : ∀ a w, S a w → I i0 a w)
    (h : ∀ i, TrC ro P (Exit.then (fun a w => ∃ j, m j < m i ∧ I j a w) Q) (I i) c) : TrC ro P Q S (.loop c) := by
  intro a w hS
  refine wpIn_loop (fun a w => ∃ k, ∃ i, m i = k ∧ I i a w) (fun a w => leastOf (fun k => ∃ i, m i = k ∧ I i a w)) ⟨m i0, i0, rfl, h0 a w hS⟩ ?_
  intro a w hI
  obtain ⟨i, hm, hi⟩ := (leastOf_spec hI).1
  refine wpIn_mono (h i a w hi) ?_
  intro e a' w' hq
  cases e <;> first | exact hq | skip
  obtain ⟨j, hj, hI'⟩ := hq
  exact show (∃ k, ∃ i, m i = k ∧ I i a' w') ∧ leastOf (fun k => ∃ i, m i = k ∧ I i a' w') < leastOf (fun k => ∃ i, m i = k ∧ I i a w) from
    ⟨⟨m j, j, rfl, hI'⟩, Nat.lt_of_le_of_lt ((leastOf_spec ⟨m j, j, rfl, hI'⟩).2 (m j) ⟨j, rfl, hI'⟩) (hm ▸ hj)⟩
theorem nnext {ι : Type} {S : Act → World → Prop} {I : ι → Act → World → Prop} {m : ι → Nat} {i : ι} (j : ι) (hm : m j < m i) (h : ∀ a w, S a w → I j a w) : TrN (Exit.then (fun a w => ∃ j, m j < m i ∧ I j a w) Q) .normal S := fun a w hS => ⟨j, hm, h a w hS⟩
end
end Go.Sx

end
section
set_option linter.unusedVariables false
set_option linter.unusedSimpArgs false
namespace Go.Sx
open Go Go.RowKit
/-- a struct's value, as it lies -/
def sv {α : Type} [Rp α] (x : α) (y : Rp.Lay α) : Value := .agg (Rp.enc x y).toArray

section
variable {ro : Option Nat} {P : Program} {M0 F0 : Nat → Prop} {w0 : World} {n : Nm} {σ : List (Nat × Value)} {Ξ : List Xsn} {Γ : List Asn} {d : Nat} {ty : TypeId} {pos : String} {af : Array Edge}
variable {ops : Array Oper} {Q : Exit → Act → World → Prop}
theorem lf {φ : Prop} {S : Act → World → Prop} {l : List Oper} (k : φ → TrL ro P ops Q S l) : TrL ro P ops Q (fun a w => φ ∧ S a w) l := fun a w ⟨h, hS⟩ => k h a w hS

/-- the place of an element -/
theorem o_ia {α : Type} [Rp α] {x ix : Operand} {t e : TypeId} {A : Option Addr} {l : List α} {c i : Nat} {kd : IntKind} {m : Int} (j : Nat) (hj : j < l.length) (hm : m = (j : Int))
    (ht : P.underlying t = some (.slice e)) (he : ∀ w, (sizeOf e).run P w = .ok (Rp.size α) w) (hx : ev σ x = some (.slice A l.length c)) (hix : ev σ ix = some (.int kd m)) (hi : At (slA A l) i Γ) (hd : Nat.blt d n.n = true) :
    OpR P ⟨some d, .indexAddr t x ix, ty, pos, af, none⟩ (St M0 F0 w0 n σ Ξ Γ) (fun a w => ∃ b o, A = some ⟨b, o, none⟩ ∧ St M0 F0 w0 n ((d, .pointer (some ⟨b, o + j * Rp.size α, none⟩)) :: σ) Ξ Γ a w) := by
  subst hm
  refine OpR.of_run rfl fun a w ⟨hs, Fs, hh⟩ => ?_
  have hg := hh.ga _ (List.mem_of_getElem? hi.get)
  obtain ⟨b, o, y, rfl, _⟩ := hg j (l[j]) (List.getElem?_eq_getElem hj)
  refine ⟨_, w, ?_, b, o, rfl, hs.put hd, Fs, hh⟩
  have h0 : (0 : Int) ≤ (j : Int) ∧ (j : Int) < (l.length : Int) := by omega
  simp [execOp, hs.ev hx, hs.ev hix, Instr.indexAt, run_underlying ht, asIntOf, he, hj, Addr.add_lit]
/-- one cell of an element -/
theorem o_ldd {α : Type} [Rp α] {x : Operand} {t : TypeId} {A : Option Addr} {l : List α} {i b o q k : Nat} {e : α} {V : Rp.Lay α → Value} (j : Nat) (hA : A = some ⟨b, o, none⟩) (hj : l[j]? = some e) (hag : ∀ w, (isAgg t).run P w = .ok false w)
    (hx : ev σ x = some (.pointer (some ⟨b, q, none⟩))) (hq : q = o + j * Rp.size α + k) (hi : At (slA A l) i Γ) (hV : ∀ y, At (V y) k (Rp.enc e y)) (hd : Nat.blt d n.n = true) :
    OpR P ⟨some d, .load t x, ty, pos, af, none⟩ (St M0 F0 w0 n σ Ξ Γ) (fun a w => ∃ y, St M0 F0 w0 n ((d, V y) :: σ) Ξ (Rp.asn e y ++ Γ) a w) := by
  subst hq
  refine OpR.of_run rfl fun a w ⟨hs, Fs, hh⟩ => ?_
  have hg := hh.ga _ (List.mem_of_getElem? hi.get)
  obtain ⟨b', o', y, hA', _, _, hc, ha⟩ := hg j e hj
  rw [hA] at hA'
  cases hA'
  have h1 := hc k (V y) (hV y).get
  refine ⟨V y, w, ?_, y, hs.put hd, Fs, { hh with ga := fun p hp => ?_ }⟩
  · simp [execOp, hs.ev hx, Instr.loadAt, Instr.sureAddr, loadVar, hag, h1]
  · rcases List.mem_append.1 hp with h | h
    · exact ha p h
    · exact hh.ga p h
/-- a whole element that is a struct -/
theorem o_ldde {α : Type} [Rp α] {x : Operand} {t : TypeId} {A : Option Addr} {l : List α} {i b o q : Nat} {e : α} (j : Nat) (hA : A = some ⟨b, o, none⟩) (hj : l[j]? = some e) (hag : ∀ w, (isAgg t).run P w = .ok true w) (hsz : ∀ w, (sizeOf t).run P w = .ok (Rp.size α) w)
    (hx : ev σ x = some (.pointer (some ⟨b, q, none⟩))) (hq : q = o + j * Rp.size α) (hi : At (slA A l) i Γ) (hd : Nat.blt d n.n = true) :
    OpR P ⟨some d, .load t x, ty, pos, af, none⟩ (St M0 F0 w0 n σ Ξ Γ) (fun a w => ∃ y, St M0 F0 w0 n ((d, sv e y) :: σ) Ξ (Rp.asn e y ++ Γ) a w) := by
  subst hq
  refine OpR.of_run rfl fun a w ⟨hs, Fs, hh⟩ => ?_
  have hg := hh.ga _ (List.mem_of_getElem? hi.get)
  obtain ⟨b', o', y, hA', _, _, hc, ha⟩ := hg j e hj
  rw [hA] at hA'
  cases hA'
  have hr := run_loadCells_list (P := P) w ⟨b, o + j * Rp.size α, none⟩ (Rp.enc e y) (fun i v hv => by rw [Addr.add_lit]; exact hc i v hv)
  rw [Rp.len] at hr
  refine ⟨sv e y, w, ?_, y, hs.put hd, Fs, { hh with ga := fun p hp => ?_ }⟩
  · simp [execOp, hs.ev hx, Instr.loadAt, Instr.sureAddr, loadVar, hag, hsz, hr, sv]
  · rcases List.mem_append.1 hp with h | h
    · exact ha p h
    · exact hh.ga p h
/-- an array in a variable: the place of an element -/
theorem p_iav {T : World → Prop} {x ix : Operand} {t e : TypeId} {b o len sz : Nat} {kd : IntKind} {m : Int} (j : Nat) (hj : j < len) (hm : m = (j : Int)) (ht : P.underlying t = some (.array len e)) (he : ∀ w, (sizeOf e).run P w = .ok sz w)
    (hx : ev σ x = some (.pointer (some ⟨b, o, none⟩))) (hix : ev σ ix = some (.int kd m)) : Pu P n σ T ⟨some d, .indexAddr t x ix, ty, pos, af, none⟩ (.pointer (some ⟨b, o + j * sz, none⟩)) := by
  subst hm
  intro a hs w _
  have h0 : (0 : Int) ≤ (j : Int) ∧ (j : Int) < (len : Int) := by omega
  simp [execOp, hs.ev hx, hs.ev hix, Instr.indexAt, run_underlying ht, asIntOf, Instr.sureAddr, he, hj, Addr.add_lit]
/-- a field of a struct's value -/
theorem p_fld {T : World → Prop} {x : Operand} {t ft : TypeId} {f off : Nat} {cs : List Value} {v : Value} {fs : Array Field} {fd : Field} (hu : P.underlying t = some (.struct fs)) (hfd : fs[f]? = some fd) (ho : fd.offset = off) (hft : fd.type = ft) (hag : ∀ w, (isAgg ft).run P w = .ok false w)
    (hx : ev σ x = some (.agg cs.toArray)) (hv : At v off cs) : Pu P n σ T ⟨some d, .field t x f, ty, pos, af, none⟩ (v) := by
  subst ho hft
  intro a hs w _
  simp [execOp, hs.ev hx, Instr.field, run_underlying hu, hfd, part, asAgg, hag, hv.get]
/-- a struct is built -/
def SB (P : Program) (t : TypeId) (pl : List (Nat × Nat)) (zs : List Value) : Prop := ∀ (parts : Array (Nat × Value)) (cells : Array Value), Instr.fill (pl[·]?) zs.toArray parts.toList = some cells → ∀ w, (Instr.build t parts).run P w = .ok (.agg cells) w
theorem SB.struct {t : TypeId} {pl : List (Nat × Nat)} {zs : List Value} {z : Value} {fs : Array Field} (hz : ∀ w, (zeroValue t).run P w = .ok z w) (hc : z.cells = zs.toArray) (hu : P.underlying t = some (.struct fs))
    (hpl : ∀ w, (fs.toList.mapM fun f => (do pure (f.offset, ← sizeOf f.type) : Sem (Nat × Nat))).run P w = .ok pl w) : SB P t pl zs := by
  intro parts cells hf w
  have : (fs.mapM fun f => (do pure (f.offset, ← sizeOf f.type) : Sem (Nat × Nat))).run P w = .ok pl.toArray w := by
    rw [Array.mapM_eq_mapM_toList]
    simp only [Sem.run_map, hpl, Result.andThen_ok]
  have hf' : Instr.fill (fun x => pl.toArray[x]?) zs.toArray parts.toList = some cells := by simpa using hf
  unfold Instr.build
  simp only [Sem.run_bind, hz, Result.andThen_ok, run_underlying hu, this, hc]
  rw [hf']
  rfl
def evP (σ : List (Nat × Value)) : List (Nat × Operand) → Option (List (Nat × Value))
  | [] => some []
  | (i, x) :: l => match ev σ x, evP σ l with
    | some v, some vs => some ((i, v) :: vs)
    | _, _ => none
theorem Slots.evP {a} (h : Slots n σ a) : ∀ {l : List (Nat × Operand)} {vs : List (Nat × Value)}, Sx.evP σ l = some vs → l.map (fun (i, x) => (i, a.eval x)) = vs
  | [], vs, hx => by cases hx; rfl
  | (i, x) :: l, vs, hx => by
    unfold Sx.evP at hx
    split at hx
    · rename_i v vs' h1 h2
      cases hx
      simp only [List.map_cons, h.ev h1, Slots.evP h h2]
    · cases hx
theorem p_bld {T : World → Prop} {t : TypeId} {parts : List (Nat × Operand)} {pl : List (Nat × Nat)} {zs cs : List Value} {ps : List (Nat × Value)} (hb : SB P t pl zs) (hp : evP σ parts = some ps) (hf : Fill pl ps zs cs) :
    Pu P n σ T ⟨some d, .build t parts.toArray, ty, pos, af, none⟩ (.agg cs.toArray) :=
  fun a hs w _ => by
    have hm := hs.evP hp
    have h2 : (parts.toArray.map (fun (x : Nat × Operand) => (x.1, a.eval x.2))).toList = ps := by simpa using hm
    have := hb (parts.toArray.map (fun (x : Nat × Operand) => (x.1, a.eval x.2))) cs.toArray (by rw [h2]; exact hf.run) w
    simp only [execOp, Sem.run_bind, this, Result.andThen_ok, Sem.run_pure]
end

/-! ### a region that draws its order -/
section
variable {ro : Option Nat} {P : Program} {ops : Array Oper} {Q : Exit → Act → World → Prop} {md : Region.Mode}
/-- late j i: operation j waits for operation i, over others -/
def lateB (md : Region.Mode) (ops : Array Oper) : Nat → Nat → Nat → Bool
  | 0, _, _ => false
  | f + 1, j, i => match ops[j]? with
    | some oj => oj.after.any fun e => Region.binds md e && (e.on == i || lateB md ops f e.on i)
    | none => false
theorem lateB_spec {md ops} : ∀ {f j i}, lateB md ops f j i = true → ∃ oj, ops[j]? = some oj ∧ ∃ e ∈ oj.after, Region.binds md e = true ∧ (e.on = i ∨ lateB md ops (f - 1) e.on i = true)
  | 0, j, i, h => by cases h
  | f + 1, j, i, h => by
    unfold lateB at h
    split at h
    · rename_i oj hj
      obtain ⟨e, he, hb⟩ := Array.any_eq_true'.1 h
      simp only [Bool.and_eq_true, Bool.or_eq_true, beq_iff_eq] at hb
      exact ⟨oj, hj, e, he, hb.1, hb.2⟩
    · cases h
/-- what has come up is closed -/
def Closed (md : Region.Mode) (ops : Array Oper) (listed : Array Bool) : Prop := ∀ j oj, ops[j]? = some oj → listed.getD j false = true → ∀ e ∈ oj.after, Region.binds md e = true → listed.getD e.on false = true
theorem Closed.late {listed : Array Bool} (hc : Closed md ops listed) : ∀ {f j i}, lateB md ops f j i = true → (∀ oj, ops[j]? = some oj → ∀ e ∈ oj.after, Region.binds md e = true → listed.getD e.on false = true) → listed.getD i false = true
  | 0, j, i, h, _ => by cases h
  | f + 1, j, i, h, hall => by
    obtain ⟨oj, hj, e, he, hb, h'⟩ := lateB_spec h
    have he' := hall oj hj e he hb
    rcases h' with rfl | h'
    · exact he'
    · exact hc.late (f := f) h' (fun oj' hj' e' he1 hb' => hc e.on oj' hj' he' e' he1 hb')
theorem Closed.set {listed : Array Bool} (hc : Closed md ops listed) {i : Nat} (hi : i ∈ Region.ready md ops listed) : Closed md ops (listed.setIfInBounds i true) := by
  obtain ⟨_, oi, hoi, hall⟩ := mem_ready.1 hi
  intro j oj hj hl e he hb
  by_cases hij : i = j
  · subst hij
    have : oj = oi := Option.some.inj (hj.symm.trans hoi)
    subst this
    exact getD_set_true (hall e he hb)
  · rw [getD_set_ne false hij] at hl
    exact getD_set_true (hc j oj hj hl e he hb)
/-- nobody of those that have come up waits for k -/
def live (md : Region.Mode) (ops : Array Oper) (eff : Nat → Bool) (listed : Array Bool) (k : Nat) : Bool := (List.range ops.size).all fun j => !(eff j && listed.getD j false && lateB md ops ops.size j k)
theorem YieldsIf.wpO {T : World → Prop} {i : Nat} {o : Oper} {v : Value} {a : Act} (hi : ops[i]? = some o) (hy : YieldsIf P ops T o v a)
    {K : Act → World → Prop} {w : World} (hS : T w) (h : K (a.put o.dst v) w) : wpOpIn (Fr ro) 0 P ops Q i K a w := by
  unfold Go.wpOpIn
  simp only [hi]
  rcases hy with ⟨hw, hv⟩ | ⟨hw, rfl⟩
  · simp only [hw, if_true, Oper.wpIn]
    rw [Oper.semAt_eq _ _ _ (nodefer_value (hv w hS)), hv w hS]
    exact ⟨fun _ _ => trivial, h⟩
  · simp only [hw, Bool.false_eq_true, if_false]; exact ⟨fun _ _ => trivial, h⟩
theorem semAt_put (ro : Option Nat) (o : Oper) (ho : ∀ cs b, o.op ≠ .select cs b) (a : Act) (dst : Option Tmp) (v : Value) (h : ∀ d, dst = some d → d ∉ o.looksAt ops) :
    o.semAt ro (a.put dst v).eval = o.semAt ro a.eval := by
  cases ro with
  | none => exact execOp_put o ho a dst v h
  | some l =>
    by_cases hd : ∃ c, o.op = .defer c
    · obtain ⟨c, hc⟩ := hd
      have e := resolve_congr (ρ := (a.put dst v).eval) (ρ' := a.eval) c o.type (fun x hx => Act.eval_put fun d hd hxd => h d hd (by
        subst hxd
        exact List.mem_append_left _ (List.mem_filterMap.2 ⟨.tmp d, by rw [hc]; simpa [Op.operands] using hx, rfl⟩)))
      unfold Oper.semAt
      simp only [hc, e]
    · have hd' : ∀ c, o.op ≠ .defer c := fun c hc => hd ⟨c, hc⟩
      rw [Oper.semAt_eq _ _ _ hd', Oper.semAt_eq _ _ _ hd', execOp_put o ho a dst v h]
theorem putIf {T : World → Prop} {j : Nat} {oi oj : Oper} {v : Value} (hj : ops[j]? = some oj) (hap : oi.apart ops oj = true)
    (hsi : ∀ cs b, oi.op ≠ .select cs b) (hsj : ∀ cs b, oj.op ≠ .select cs b)
    (hQ : ∀ c a w, Q (.panic c) (a.put oi.dst v) w → Q (.panic c) a w) {K : Act → World → Prop} {a : Act} {w : World}
    (hy : YieldsIf P ops T oi v a) (h : wpOpIn (Fr ro) 0 P ops Q j K (a.put oi.dst v) w) :
    wpOpIn (Fr ro) 0 P ops Q j (fun a' w' => YieldsIf P ops T oi v a' ∧ K (a'.put oi.dst v) w') a w := by
  obtain ⟨h1, h2, h3⟩ := Oper.apart_spec hap
  have keep : ∀ (a : Act), YieldsIf P ops T oi v a → ∀ u, YieldsIf P ops T oi v (a.put oj.dst u) := fun a hy u =>
    hy.of_same (execOp_put oi hsi a oj.dst u h3) (wanted_put oi a oj.dst u h3)
  have keepD : ∀ d, YieldsIf P ops T oi v { a with defers := d :: a.defers } := fun d => hy.of_same rfl rfl
  unfold wpOpIn at *
  simp only [hj] at *
  rw [wanted_put oj a oi.dst v h1] at h
  split
  · rename_i hw
    simp only [hw, if_true] at h
    refine ⟨fun _ _ => trivial, ?_⟩
    have h := h.2
    rw [semAt_put _ oj hsj a oi.dst v h1] at h
    generalize (oj.semAt (Fr ro).round a.eval).run P w = r at *
    cases r with
    | ok n w' =>
      cases n <;> simp only [Oper.uponIn] at h ⊢
      case value u => exact ⟨keep a hy u, by rw [← Act.put_comm a v u h2]; exact h⟩
      case skip => exact ⟨keep a hy _, by rw [← Act.put_comm a v undef h2]; exact h⟩
      case defer d =>
        refine ⟨keep _ (keepD d) _, ?_⟩
        rw [← Act.put_comm _ v undef h2, ← Act.put_defers]
        exact h
      case enter f args =>
        refine ⟨h.1, CallsIn.mono h.2 fun e w'' he => ?_⟩
        cases e with
        | returned u => exact ⟨keep a hy u, by rw [← Act.put_comm a v u h2]; exact he⟩
        | panicked c => exact hQ _ _ _ he
        | outgrown => exact he
      case row row args => exact ⟨h.1, RowsIn.mono h.2 fun u w'' he => ⟨keep a hy u, by rw [← Act.put_comm a v u h2]; exact he⟩⟩
      case round l f tmps assign body =>
        refine ⟨h.1, RoundIn.mono h.2 fun e w'' he => ?_⟩
        cases e with
        | returned u => exact ⟨keep a hy u, by rw [← Act.put_comm a v u h2]; exact he⟩
        | panicked c => exact hQ _ _ _ he
        | outgrown => exact he
    | halt x w' =>
      cases x <;> simp only [Oper.uponIn] at h ⊢
      case panic u => exact hQ _ _ _ h
  · rename_i hw
    simp only [hw] at h
    exact ⟨fun _ _ => trivial, keep a hy _, by rw [← Act.put_comm a v undef h2]; exact h.2⟩
/-- whatever order; T k: what number k's yield asks of a world: shown anew behind each operation, as long as nobody that waits for k has come up -/
def wpAnyT (ro : Option Nat) (P : Program) (md : Region.Mode) (ops : Array Oper) (Q : Exit → Act → World → Prop) (eff : Nat → Bool) (T : Nat → World → Prop) : Nat → Array Bool → Act → World → Prop
  | 0, listed, a, w => Region.ready md ops listed = [] ∧ Q .normal a w
  | fuel + 1, listed, a, w =>
    (Region.ready md ops listed = [] → Q .normal a w) ∧
    ∀ i ∈ Region.ready md ops listed, wpOpIn (Fr ro) 0 P ops Q i (fun a' w' => (∀ k, live md ops eff (listed.setIfInBounds i true) k = true → T k w') ∧ wpAnyT ro P md ops Q eff T fuel (listed.setIfInBounds i true) a' w') a w
theorem wpAny_of_T {eff T} : ∀ (fuel : Nat) (listed : Array Bool) (a : Act) (w : World), wpAnyT ro P md ops Q eff T fuel listed a w → wpAnyIn (Fr ro) 0 P md ops Q fuel listed a w
  | 0, _, _, _, h => h
  | fuel + 1, _, _, _, h => ⟨h.1, fun i hi => wpOpIn_mono (fun a' w' h' => wpAny_of_T fuel _ a' w' h'.2) (h.2 i hi)⟩
theorem unlisted {listed : Array Bool} {i : Nat} (h0 : listed.getD i true = false) : listed.getD i false = false := by
  rcases Nat.lt_or_ge i listed.size with h' | h'
  · simp [h'] at h0 ⊢; exact h0
  · simp [Array.getElem?_eq_none h'] at h0
theorem not_late {listed : Array Bool} (hcl : Closed md ops listed) {i j : Nat} (hi : listed.getD i false = false) {oj : Oper} (hoj : ops[j]? = some oj) (hall : ∀ e ∈ oj.after, Region.binds md e = true → listed.getD e.on false = true) : lateB md ops ops.size j i = false := by
  cases hl : lateB md ops ops.size j i with
  | false => rfl
  | true =>
    have := hcl.late hl (fun oj' hj' e he hb => by
      have : oj' = oj := Option.some.inj (hj'.symm.trans hoj)
      subst this
      exact hall e he hb)
    rw [hi] at this
    cases this
/-- of a closed set, nobody waits for who has not come up -/
theorem live_of {eff : Nat → Bool} {listed : Array Bool} (hcl : Closed md ops listed) {i : Nat} (hi : listed.getD i false = false) : live md ops eff listed i = true := by
  refine List.all_eq_true.2 fun j hj => ?_
  cases hl : listed.getD j false with
  | false => simp
  | true =>
    have hlt : j < ops.size := List.mem_range.1 hj
    have := not_late hcl hi (Array.getElem?_eq_getElem hlt) (fun e he hb => hcl j _ (Array.getElem?_eq_getElem hlt) hl e he hb)
    simp [this]
theorem live_set {eff : Nat → Bool} {listed : Array Bool} {i k : Nat} (h : live md ops eff listed k = true) (hi : eff i = false ∨ lateB md ops ops.size i k = false) : live md ops eff (listed.setIfInBounds i true) k = true := by
  refine List.all_eq_true.2 fun j hj => ?_
  by_cases hij : i = j
  · subst hij; rcases hi with hi | hi <;> simp [hi]
  · rw [getD_set_ne false hij]
    exact List.all_eq_true.1 h j hj
theorem wpAnyT_first {eff : Nat → Bool} {T : Nat → World → Prop} {i : Nat} {oi : Oper} {v : Value} (hi : ops[i]? = some oi) (hsel : ∀ (j : Nat) (o : Oper) cs b, ops[j]? = some o → o.op ≠ .select cs b)
    (hQ : ∀ c a w, Q (.panic c) (a.put oi.dst v) w → Q (.panic c) a w) (heff : eff i = false) :
    ∀ (fuel : Nat) (listed : Array Bool) (a : Act) (w : World), Closed md ops listed →
      (∀ j oj, ops[j]? = some oj → j ≠ i → listed.getD j true = false → (∀ e ∈ oj.after, Region.binds md e = true → e.on ≠ i) → oi.apart ops oj = true) →
      i ∈ Region.ready md ops listed → YieldsIf P ops (T i) oi v a → (∀ k, live md ops eff listed k = true → T k w) →
      wpAnyT ro P md ops Q eff T fuel (listed.setIfInBounds i true) (a.put oi.dst v) w → wpAnyT ro P md ops Q eff T (fuel + 1) listed a w := by
  have hlv : ∀ (listed : Array Bool) k, live md ops eff (listed.setIfInBounds i true) k = true → live md ops eff listed k = true := by
    intro listed k h
    refine List.all_eq_true.2 fun j hj => ?_
    by_cases hij : i = j
    · subst hij; simp [heff]
    · have := List.all_eq_true.1 h j hj
      rwa [getD_set_ne false hij] at this
  intro fuel
  induction fuel with
  | zero =>
    intro listed a w hcl _ hr hy hTw H
    have hS := hTw i (live_of hcl (unlisted (mem_ready.1 hr).1))
    refine ⟨fun h => (by rw [h] at hr; cases hr), fun j hj => ?_⟩
    by_cases hji : j = i
    · subst hji; exact YieldsIf.wpO hi hy hS ⟨fun k hk => hTw k (hlv _ k hk), H⟩
    · have := ready_mono hj hji
      rw [H.1] at this
      cases this
  | succ fuel ih =>
    intro listed a w hcl hfree hr hy hTw H
    have hiun := unlisted (mem_ready.1 hr).1
    have hS := hTw i (live_of hcl hiun)
    refine ⟨fun h => (by rw [h] at hr; cases hr), fun j hj => ?_⟩
    by_cases hji : j = i
    · subst hji; exact YieldsIf.wpO hi hy hS ⟨fun k hk => hTw k (hlv _ k hk), H⟩
    · have h1 := H.2 j (ready_mono hj hji)
      obtain ⟨hjun, oj, hoj, hall⟩ := mem_ready.1 hj
      have hnot : ∀ e ∈ oj.after, Region.binds md e = true → e.on ≠ i := fun e he hb heq => by
        have h1 := hall e he hb
        rw [heq, hiun] at h1
        cases h1
      have h2 := putIf hoj (hfree j oj hoj hji hjun hnot) (fun cs b => hsel i oi cs b hi) (fun cs b => hsel j oj cs b hoj) hQ hy h1
      have hfree' : ∀ k ok, ops[k]? = some ok → k ≠ i → (listed.setIfInBounds j true).getD k true = false →
          (∀ e ∈ ok.after, Region.binds md e = true → e.on ≠ i) → oi.apart ops ok = true := fun k ok hk hki hun hno => by
        refine hfree k ok hk hki ?_ hno
        by_cases hjk : j = k
        · subst hjk; exact hjun
        · rw [getD_set_ne true hjk] at hun; exact hun
      have hsw : (listed.setIfInBounds j true).setIfInBounds i true = (listed.setIfInBounds i true).setIfInBounds j true := Array.setIfInBounds_comm _ _ hji
      refine wpOpIn_mono (fun a' w' h3 => ?_) h2
      obtain ⟨hy', hT', hW⟩ := h3
      have hT2 : ∀ k, live md ops eff (listed.setIfInBounds j true) k = true → T k w' := fun k hk => hT' k (by rw [← hsw]; exact live_set hk (.inl heff))
      exact ⟨hT2, ih (listed.setIfInBounds j true) a' w' (hcl.set hj) hfree' (ready_mono hr (Ne.symm hji)) hy' hT2 (by rw [hsw]; exact hW)⟩
theorem getD_replicate_false (m j : Nat) : (Array.replicate m false).getD j false = false := by
  rcases Nat.lt_or_ge j m with h | h
  · simp [h]
  · simp [h]
theorem closed_none : Closed md ops (Array.replicate ops.size false) := fun j oj _ hl => (by rw [getD_replicate_false] at hl; cases hl)

/-! ### the moves of a walk through such a region -/
def lst (n : Nat) : List Nat → Array Bool
  | [] => Array.replicate n false
  | i :: L => (lst n L).setIfInBounds i true
/-- what is asked of a world for the loads that have not come up -/
def TT (TL : List (Nat × Nat × Nat × List Value)) (k : Nat) (w : World) : Prop := ∀ e ∈ TL, e.1 = k → Is e.2.1 e.2.2.1 e.2.2.2 w
def TrA (ro : Option Nat) (P : Program) (ops : Array Oper) (Q : Exit → Act → World → Prop) (ef : List Nat) (TL : List (Nat × Nat × Nat × List Value)) (S : Act → World → Prop) (fuel : Nat) (L : List Nat) : Prop :=
  Closed .any ops (lst ops.size L) → ∀ a w, S a w → (∀ k, live .any ops (ef.contains ·) (lst ops.size L) k = true → TT TL k w) → wpAnyT ro P .any ops Q (ef.contains ·) (TT TL) fuel (lst ops.size L) a w
variable {ef : List Nat} {TL : List (Nat × Nat × Nat × List Value)} {fuel : Nat} {L : List Nat} {S S' : Act → World → Prop}
variable {M0 F0 : Nat → Prop} {w0 : World} {n : Nm} {σ : List (Nat × Value)} {Ξ : List Xsn} {Γ : List Asn} {d : Nat} {ty : TypeId} {pos : String} {af : Array Edge}
/-- the facts on the loads, out of the state -/
inductive TOk (ops : Array Oper) (ef : List Nat) (L : List Nat) (S : Act → World → Prop) : List (Nat × Nat × Nat × List Value) → Prop
  | d : TOk ops ef L S []
  | x {k b o vs r} : live .any ops (ef.contains ·) (lst ops.size L) k = false → TOk ops ef L S r → TOk ops ef L S ((k, b, o, vs) :: r)
  | t {k b o vs r} : (∀ a w, S a w → Is b o vs w) → TOk ops ef L S r → TOk ops ef L S ((k, b, o, vs) :: r)
theorem TOk.get (h : TOk ops ef L S TL) : ∀ a w, S a w → ∀ k, live .any ops (ef.contains ·) (lst ops.size L) k = true → TT TL k w := by
  intro a w hS k hk
  induction h with
  | d => intro e he; cases he
  | x hl _ ih =>
    intro e he hek
    cases he with
    | head => subst hek; rw [hl] at hk; cases hk
    | tail _ he => exact ih e he hek
  | t hl _ ih =>
    intro e he hek
    cases he with
    | head => exact hl a w hS
    | tail _ he => exact ih e he hek
theorem isBoxS {i b o k : Nat} {bt : TypeId} {cs r : List Value} (hi : At (box b bt cs) i Ξ) (hv : Cut o k cs r) : ∀ a w, St M0 F0 w0 n σ Ξ Γ a w → Is b o r w := fun a w ⟨_, Fs, hh⟩ => isBox hi hv Fs w hh
theorem isBoxE {X : Type} {σ : X → List (Nat × Value)} {Ξ : X → List Xsn} {Γ : X → List Asn} {b o : Nat} {r : List Value} (h : ∀ x, ∀ a w, St M0 F0 w0 n (σ x) (Ξ x) (Γ x) a w → Is b o r w) : ∀ a w, (∃ x, St M0 F0 w0 n (σ x) (Ξ x) (Γ x) a w) → Is b o r w := fun a w ⟨x, hh⟩ => h x a w hh
/-- the beginning -/
theorem cd {id : Nat} {l : List Oper} (ef : List Nat) (TL : List (Nat × Nat × Nat × List Value)) (hm : P.follows .mixedOrders = true) (hT : TOk l.toArray ef [] (St M0 F0 w0 n σ Ξ Γ) TL) (k : TrA ro P l.toArray Q ef TL (St M0 F0 w0 n σ Ξ Γ) l.length []) :
    TrC ro P Q (St M0 F0 w0 n σ Ξ Γ) (.region id l.toArray true) := by
  rintro a w ⟨hs, Fs, hh⟩
  have hS : St M0 F0 w0 n σ Ξ Γ a { w with drawn := w.drawn + 1 } := ⟨hs, Fs, hh.same rfl rfl rfl rfl⟩
  have h1 := k (closed_none) a _ hS (hT.get a _ hS)
  exact wpIn_region_any hm (by simpa [lst] using wpAny_of_T _ _ _ _ h1)
/-- number i, which only yields a value, is taken first -/
theorem tk (i : Nat) {T : World → Prop} {o : Op} {v : Value} {g : Option (Nat × Bool)} (hi : ops[i]? = some ⟨some d, o, ty, pos, af, g⟩) (hck : (Region.noSelect ops && Region.free .any ops (lst ops.size L) i && (Region.ready .any ops (lst ops.size L)).contains i && !ef.contains i) = true)
    (hQ : ∀ c a w, Q (.panic c) (a.put (some d) v) w → Q (.panic c) a w) (hg : ∀ a, Slots n σ a → Region.wanted ⟨some d, o, ty, pos, af, g⟩ (yielded ops a.tmps) = true) (hT : ∀ w, TT TL i w → T w) (hp : Pu P n σ T ⟨some d, o, ty, pos, af, g⟩ v) (hd : Nat.blt d n.n = true)
    (k : TrA ro P ops Q ef TL (St M0 F0 w0 n ((d, v) :: σ) Ξ Γ) fuel (i :: L)) : TrA ro P ops Q ef TL (St M0 F0 w0 n σ Ξ Γ) (fuel + 1) L := by
  simp only [Bool.and_eq_true, Bool.not_eq_true'] at hck
  obtain ⟨⟨⟨h1, h2⟩, h3⟩, h4⟩ := hck
  rintro hcl a w ⟨hs, hh⟩ hTw
  have h3' : i ∈ Region.ready .any ops (lst ops.size L) := by simpa using h3
  refine wpAnyT_first hi (Region.noSelect_spec h1) hQ h4 fuel _ a w hcl (Region.free_spec hi h2) h3' (.inl ⟨hg a hs, fun w' hw' => hp a hs w' (hT w' hw')⟩) hTw ?_
  refine k (hcl.set h3') _ _ ⟨hs.put hd, hh⟩ (fun k hk => hTw k ?_)
  refine List.all_eq_true.2 fun j hj => ?_
  by_cases hij : i = j
  · subst hij; simp only [h4]; simp
  · have := List.all_eq_true.1 hk j hj
    rw [show lst ops.size (i :: L) = (lst ops.size L).setIfInBounds i true from rfl] at this
    rwa [getD_set_ne false hij] at this
/-- a guard that says no -/
theorem tks (i : Nat) {o : Op} {j : Nat} {want b : Bool} {o' : Oper} {t : Nat} (hi : ops[i]? = some ⟨some d, o, ty, pos, af, some (j, want)⟩) (hck : (Region.noSelect ops && Region.free .any ops (lst ops.size L) i && (Region.ready .any ops (lst ops.size L)).contains i && !ef.contains i) = true)
    (hQ : ∀ c a w, Q (.panic c) (a.put (some d) undef) w → Q (.panic c) a w) (hj : ops[j]? = some o') (ht : o'.dst = some t) (hb : look σ t = some (.bool b)) (hne : (b == want) = false) (hd : Nat.blt d n.n = true)
    (k : TrA ro P ops Q ef TL (St M0 F0 w0 n ((d, undef) :: σ) Ξ Γ) fuel (i :: L)) : TrA ro P ops Q ef TL (St M0 F0 w0 n σ Ξ Γ) (fuel + 1) L := by
  simp only [Bool.and_eq_true, Bool.not_eq_true'] at hck
  obtain ⟨⟨⟨h1, h2⟩, h3⟩, h4⟩ := hck
  rintro hcl a w ⟨hs, hh⟩ hTw
  have h3' : i ∈ Region.ready .any ops (lst ops.size L) := by simpa using h3
  have hy : yielded ops a.tmps j = some b := by
    have := hs.val t _ hb
    have h2 : a.tmps[t]? = some (.bool b) := by
      cases h : a.tmps[t]? with
      | none => simp [Array.getD_eq_getD_getElem?, h, undef] at this
      | some v => simpa [Array.getD_eq_getD_getElem?, h] using this
    simp [yielded, hj, ht, h2]
  refine wpAnyT_first hi (Region.noSelect_spec h1) hQ h4 fuel _ a w hcl (Region.free_spec hi h2) h3' (.inr ⟨by simp [Region.wanted, hy, hne], rfl⟩) hTw ?_
  refine k (hcl.set h3') _ _ ⟨hs.put hd, hh⟩ (fun k hk => hTw k ?_)
  refine List.all_eq_true.2 fun j hj => ?_
  by_cases hij : i = j
  · subst hij; simp only [h4]; simp
  · have := List.all_eq_true.1 hk j hj
    rw [show lst ops.size (i :: L) = (lst ops.size L).setIfInBounds i true from rfl] at this
    rwa [getD_set_ne false hij] at this
/-- number i is carried out (one of those that may come up) -/
def Does (ro : Option Nat) (P : Program) (ops : Array Oper) (Q : Exit → Act → World → Prop) (ef : List Nat) (TL : List (Nat × Nat × Nat × List Value)) (S : Act → World → Prop) (fuel : Nat) (L : List Nat) (i : Nat) : Prop :=
  i ∈ Region.ready .any ops (lst ops.size L) → Closed .any ops (lst ops.size L) → ∀ a w, S a w → wpOpIn (Fr ro) 0 P ops Q i (fun a' w' => (∀ k, live .any ops (ef.contains ·) ((lst ops.size L).setIfInBounds i true) k = true → TT TL k w') ∧ wpAnyT ro P .any ops Q (ef.contains ·) (TT TL) fuel ((lst ops.size L).setIfInBounds i true) a' w') a w
theorem doR {i : Nat} {o : Oper} (hi : ops[i]? = some o) (h : OpR P o S S') (hT : TOk ops ef (i :: L) S' TL) (k : TrA ro P ops Q ef TL S' fuel (i :: L)) : Does ro P ops Q ef TL S fuel L i := by
  intro hr hcl a w hS
  unfold wpOpIn
  simp only [hi]
  obtain ⟨hg, hw⟩ := h (fun a' w' => (∀ k, live .any ops (ef.contains ·) ((lst ops.size L).setIfInBounds i true) k = true → TT TL k w') ∧ wpAnyT ro P .any ops Q (ef.contains ·) (TT TL) fuel ((lst ops.size L).setIfInBounds i true) a' w') Q a w hS (fun a' w' hS' => ⟨hT.get a' w' hS', k (hcl.set hr) a' w' hS' (hT.get a' w' hS')⟩)
  rw [if_pos (by simp [Region.wanted, hg])]
  exact hw ro
theorem df (i : Nat) (hr : Region.ready .any ops (lst ops.size L) = [i]) (h : Does ro P ops Q ef TL S fuel L i) : TrA ro P ops Q ef TL S (fuel + 1) L := by
  intro hcl a w hS hT
  refine ⟨fun h0 => (by rw [hr] at h0; cases h0), fun j hj => ?_⟩
  have : j = i := by rw [hr] at hj; simpa using hj
  subst this
  exact h hj hcl a w hS
theorem dall {is : List Nat} (hr : Region.ready .any ops (lst ops.size L) = is) (hne : is.isEmpty = false) (h : ∀ i ∈ is, Does ro P ops Q ef TL S fuel L i) : TrA ro P ops Q ef TL S (fuel + 1) L := by
  intro hcl a w hS hT
  refine ⟨fun h0 => (by rw [hr] at h0; rw [h0] at hne; cases hne), fun j hj => h j (by rw [← hr]; exact hj) hj hcl a w hS⟩
theorem dn {fuel : Nat} (hr : Region.ready .any ops (lst ops.size L) = []) (k : TrN Q .normal S) : TrA ro P ops Q ef TL S fuel L := by
  intro hcl a w hS hT
  cases fuel with
  | zero => exact ⟨hr, k a w hS⟩
  | succ f => exact ⟨fun _ => k a w hS, by rw [hr]; simp⟩
theorem ea {X : Type} {S : X → Act → World → Prop} (k : ∀ x, TrA ro P ops Q ef TL (S x) fuel L) : TrA ro P ops Q ef TL (fun a w => ∃ x, S x a w) fuel L := fun hcl a w ⟨x, h⟩ hT => k x hcl a w h hT
theorem amono (hs : ∀ a w, S a w → S' a w) (k : TrA ro P ops Q ef TL S' fuel L) : TrA ro P ops Q ef TL S fuel L := fun hcl a w h hT => k hcl a w (hs a w h) hT
theorem gnone {o : Op} (a : Act) (h : Slots n σ a) : Region.wanted ⟨some d, o, ty, pos, af, none⟩ (yielded ops a.tmps) = true := rfl
theorem gyes {o : Op} {j : Nat} {want b : Bool} {o' : Oper} {t : Nat} (hj : ops[j]? = some o') (ht : o'.dst = some t) (hb : look σ t = some (.bool b)) (he : (b == want) = true) (a : Act) (hs : Slots n σ a) : Region.wanted ⟨some d, o, ty, pos, af, some (j, want)⟩ (yielded ops a.tmps) = true := by
  have := hs.val t _ hb
  have h2 : a.tmps[t]? = some (.bool b) := by
    cases h : a.tmps[t]? with
    | none => simp [Array.getD_eq_getD_getElem?, h, undef] at this
    | some v => simpa [Array.getD_eq_getD_getElem?, h] using this
  have hy : yielded ops a.tmps j = some b := by simp [yielded, hj, ht, h2]
  simpa [Region.wanted, hy] using he
theorem gpu {o : Op} {v : Value} {T : World → Prop} {g : Option (Nat × Bool)} (h : Pu P n σ T ⟨some d, o, ty, pos, af, none⟩ v) : Pu P n σ T ⟨some d, o, ty, pos, af, g⟩ v := h
theorem TTany (i : Nat) : ∀ w, TT TL i w → Any w := fun _ _ => trivial
theorem TTat {i b o : Nat} {vs : List Value} (h : (i, b, o, vs) ∈ TL) : ∀ w, TT TL i w → Is b o vs w := fun w hw => hw _ h rfl
end
end Go.Sx

end
section
set_option linter.unusedVariables false
set_option linter.unusedSimpArgs false
namespace Go.Sx
open Go Go.RowKit
/-- these cells hold these values, for good -/
def isA (b o : Nat) (vs : List Value) : Asn where
  p M w := ¬ M b ∧ b < w.heap.size ∧ Is b o vs w
  st := by
    intro M M' w w' ⟨h1, h2, h3⟩ hb hm hs
    refine ⟨fun h => h1 (hm b h2 h), Nat.lt_of_lt_of_le h2 hs, fun j v hj => ?_⟩
    rw [World.cell?_of_block (w := w) (hb b h2 h1)]
    exact h3 j v hj
section
variable {ro : Option Nat} {P : Program} {M0 F0 : Nat → Prop} {w0 : World} {n : Nm} {σ : List (Nat × Value)} {Ξ : List Xsn} {Γ : List Asn} {d : Nat} {ty : TypeId} {pos : String} {af : Array Edge}
variable {ops : Array Oper} {Q : Exit → Act → World → Prop}
/-- element j is looked up -/
theorem el {α : Type} [Rp α] {A : Option Addr} {l : List α} {i : Nat} {x : α} {a : Act} {w : World} (hi : At (slA A l) i Γ) (j : Nat) (hj : l[j]? = some x) (hS : St M0 F0 w0 n σ Ξ Γ a w) :
    ∃ b o y, A = some ⟨b, o, none⟩ ∧ St M0 F0 w0 n σ Ξ (isA b (o + j * Rp.size α) (Rp.enc x y) :: (Rp.asn x y ++ Γ)) a w := by
  obtain ⟨hs, Fs, hh⟩ := hS
  obtain ⟨b, o, y, hA, h1, h2, h3, h4⟩ := hh.ga _ (List.mem_of_getElem? hi.get) j x hj
  refine ⟨b, o, y, hA, hs, Fs, { hh with ga := fun p hp => ?_ }⟩
  rcases List.mem_cons.1 hp with rfl | hp
  · exact ⟨h1, h2, h3⟩
  rcases List.mem_append.1 hp with h | h
  · exact h4 p h
  · exact hh.ga p h
theorem elC {α : Type} [Rp α] {A : Option Addr} {l : List α} {i : Nat} {x : α} {c : Code} (hi : At (slA A l) i Γ) (j : Nat) (hj : l[j]? = some x)
    (k : ∀ b o y, A = some ⟨b, o, none⟩ → TrC ro P Q (St M0 F0 w0 n σ Ξ (isA b (o + j * Rp.size α) (Rp.enc x y) :: (Rp.asn x y ++ Γ))) c) : TrC ro P Q (St M0 F0 w0 n σ Ξ Γ) c := fun a w hS => by
  obtain ⟨b, o, y, hA, h⟩ := el hi j hj hS
  exact k b o y hA a w h
theorem elL {α : Type} [Rp α] {A : Option Addr} {l : List α} {i : Nat} {x : α} {r : List Oper} (hi : At (slA A l) i Γ) (j : Nat) (hj : l[j]? = some x)
    (k : ∀ b o y, A = some ⟨b, o, none⟩ → TrL ro P ops Q (St M0 F0 w0 n σ Ξ (isA b (o + j * Rp.size α) (Rp.enc x y) :: (Rp.asn x y ++ Γ))) r) : TrL ro P ops Q (St M0 F0 w0 n σ Ξ Γ) r := fun a w hS => by
  obtain ⟨b, o, y, hA, h⟩ := el hi j hj hS
  exact k b o y hA a w h
/-- the place of an element -/
theorem p_ia {T : World → Prop} {x ix : Operand} {t e : TypeId} {A : Option Addr} {b o len c sz : Nat} {kd : IntKind} {m : Int} (j : Nat) (hA : A = some ⟨b, o, none⟩) (hj : j < len) (hm : m = (j : Int)) (ht : P.underlying t = some (.slice e)) (he : ∀ w, (sizeOf e).run P w = .ok sz w)
    (hx : ev σ x = some (.slice A len c)) (hix : ev σ ix = some (.int kd m)) : Pu P n σ T ⟨some d, .indexAddr t x ix, ty, pos, af, none⟩ (.pointer (some ⟨b, o + j * sz, none⟩)) := by
  subst hm
  subst hA
  intro a hs w _
  have h0 : (0 : Int) ≤ (j : Int) ∧ (j : Int) < (len : Int) := by omega
  simp [execOp, hs.ev hx, hs.ev hix, Instr.indexAt, run_underlying ht, asIntOf, he, hj, Addr.add_lit]
theorem isIn {b q q' i k z : Nat} {cs r : List Value} (hi : At (isA b q cs) i Γ) (hq : q' = q + k) (hv : Cut k z cs r) : ∀ Fs w, Hp M0 F0 w0 Ξ Γ Fs w → Is b q' r w := by
  intro Fs w hh j v hj
  subst hq
  obtain ⟨rfl, hle⟩ := hv.eq
  have hjk : j < z := by have := (List.getElem?_eq_some_iff.1 hj).1; simp at this; omega
  have := (hh.ga _ (List.mem_of_getElem? hi.get)).2.2 (k + j) v (by rw [List.getElem?_take_of_lt hjk, List.getElem?_drop] at hj; exact hj)
  rw [Nat.add_assoc]; exact this
theorem isInS {b q q' i k z : Nat} {cs r : List Value} (hi : At (isA b q cs) i Γ) (hq : q' = q + k) (hv : Cut k z cs r) : ∀ a w, St M0 F0 w0 n σ Ξ Γ a w → Is b q' r w := fun a w ⟨_, Fs, hh⟩ => isIn hi hq hv Fs w hh
/-- one cell of what is looked up -/
theorem o_ldi {x : Operand} {t : TypeId} {i b q q' : Nat} {cs : List Value} {v : Value} (hag : ∀ w, (isAgg t).run P w = .ok false w) (hx : ev σ x = some (.pointer (some ⟨b, q', none⟩))) (hi : At (isA b q cs) i Γ) (k : Nat) (hq : q' = q + k) (hv : Cut k 1 cs [v]) (hd : Nat.blt d n.n = true) :
    OpR P ⟨some d, .load t x, ty, pos, af, none⟩ (St M0 F0 w0 n σ Ξ Γ) (St M0 F0 w0 n ((d, v) :: σ) Ξ Γ) := opT (p_ld hag hx) (isIn hi hq hv) hd
/-- a whole struct of what is looked up -/
theorem o_ldj {x : Operand} {t : TypeId} {i b q q' z : Nat} {cs r : List Value} (hag : ∀ w, (isAgg t).run P w = .ok true w) (hsz : ∀ w, (sizeOf t).run P w = .ok z w) (hx : ev σ x = some (.pointer (some ⟨b, q', none⟩))) (hi : At (isA b q cs) i Γ) (k : Nat) (hq : q' = q + k) (hv : Cut k z cs r) (hd : Nat.blt d n.n = true) :
    OpR P ⟨some d, .load t x, ty, pos, af, none⟩ (St M0 F0 w0 n σ Ξ Γ) (St M0 F0 w0 n ((d, .agg r.toArray) :: σ) Ξ Γ) := opT (p_lda hag hsz hx hv.length) (isIn hi hq hv) hd
/-- a function value -/
theorem p_mkf {T : World → Prop} {g : FuncId} {cap : List Operand} {cs : List Value} (hc : evL σ cap = some cs) : Pu P n σ T ⟨some d, .makeFunc (.func g) #[] cap.toArray, ty, pos, af, none⟩ (.func (.func g) #[] cs.toArray) := by
  intro a hs w _
  have hm := hs.evL hc
  have : cap.toArray.map a.eval = cs.toArray := by simp [hm]
  simp [execOp, Instr.makeFunc, this]
end
end Go.Sx

end
section
set_option linter.unusedVariables false
set_option linter.unusedSimpArgs false
namespace Go.Sx
open Go Go.RowKit
section
variable {ro : Option Nat} {P : Program} {M0 F0 : Nat → Prop} {w0 : World} {n : Nm} {σ : List (Nat × Value)} {Ξ : List Xsn} {Γ : List Asn} {d : Nat} {ty : TypeId} {pos : String} {af : Array Edge}
variable {ops : Array Oper} {Q : Exit → Act → World → Prop} {S S' : Act → World → Prop}
/-! ways that meet again -/
theorem wk0 {σ' : List (Nat × Value)} {Γ' : List Asn} (hσ : subσ σ σ') (hg : Sub Γ' Γ) : ∀ a w, St M0 F0 w0 n σ Ξ Γ a w → St M0 F0 w0 n σ' Ξ Γ' a w := by
  rintro a w ⟨hsl, Fs, hh⟩
  exact ⟨hsl.sub hσ, Fs, { hh with ga := fun p hp => hh.ga p (hg.mem p hp) }⟩
theorem nmid {S'' : Act → World → Prop} (hs : ∀ a w, S'' a w → S' a w) : TrN (Exit.then S' Q) .normal S'' := hs
theorem wpListIn_mid : ∀ (k : Nat) (l : List Oper) (a : Act) (w : World), wpListIn (Fr ro) 0 P ops (Exit.then (wpListIn (Fr ro) 0 P ops Q (l.drop k)) Q) (l.take k) a w → wpListIn (Fr ro) 0 P ops Q l a w
  | 0, l, a, w, h => h
  | k + 1, [], a, w, h => h
  | k + 1, o :: l, a, w, h => by
    simp only [List.take_succ_cons, List.drop_succ_cons] at h
    unfold wpListIn at h ⊢
    split at h
    · rename_i hw
      rw [if_pos hw]
      refine ⟨h.1, ?_⟩
      have h := h.2
      generalize (o.semAt (Fr ro).round a.eval).run P w = r at h
      cases r with
      | ok nx w' =>
        cases nx <;> simp only [Oper.uponIn] at h ⊢
        case value v => exact wpListIn_mid k l _ _ h
        case skip => exact wpListIn_mid k l _ _ h
        case defer d => exact wpListIn_mid k l _ _ h
        case enter f args =>
          refine ⟨h.1, CallsIn.mono h.2 fun e w'' he => ?_⟩
          cases e with
          | returned u => exact wpListIn_mid k l _ _ he
          | panicked c => exact he
          | outgrown => exact he
        case row row args => exact ⟨h.1, RowsIn.mono h.2 fun u w'' he => wpListIn_mid k l _ _ he⟩
        case round l' f tmps assign body =>
          refine ⟨h.1, RoundIn.mono h.2 fun e w'' he => ?_⟩
          cases e with
          | returned u => exact wpListIn_mid k l _ _ he
          | panicked c => exact he
          | outgrown => exact he
      | halt x w' =>
        cases x <;> simp only [Oper.uponIn] at h ⊢
        case panic u => exact h
    · rename_i hw
      rw [if_neg hw]
      exact ⟨h.1, wpListIn_mid k l _ _ h.2⟩
theorem wpListIn_post {S1 S2 : Act → World → Prop} (hs : ∀ a w, S1 a w → S2 a w) : ∀ (l : List Oper) (a : Act) (w : World), wpListIn (Fr ro) 0 P ops (Exit.then S1 Q) l a w → wpListIn (Fr ro) 0 P ops (Exit.then S2 Q) l a w
  | [], a, w, h => hs a w h
  | o :: l, a, w, h => by
    unfold wpListIn at h ⊢
    split at h
    · rename_i hw
      rw [if_pos hw]
      refine ⟨h.1, ?_⟩
      have h := h.2
      generalize (o.semAt (Fr ro).round a.eval).run P w = r at h
      cases r with
      | ok nx w' =>
        cases nx <;> simp only [Oper.uponIn] at h ⊢
        case value v => exact wpListIn_post hs l _ _ h
        case skip => exact wpListIn_post hs l _ _ h
        case defer d => exact wpListIn_post hs l _ _ h
        case enter f args =>
          refine ⟨h.1, CallsIn.mono h.2 fun e w'' he => ?_⟩
          cases e with
          | returned u => exact wpListIn_post hs l _ _ he
          | panicked c => exact he
          | outgrown => exact he
        case row row args => exact ⟨h.1, RowsIn.mono h.2 fun u w'' he => wpListIn_post hs l _ _ he⟩
        case round l' f tmps assign body =>
          refine ⟨h.1, RoundIn.mono h.2 fun e w'' he => ?_⟩
          cases e with
          | returned u => exact wpListIn_post hs l _ _ he
          | panicked c => exact he
          | outgrown => exact he
      | halt x w' =>
        cases x <;> simp only [Oper.uponIn] at h ⊢
        case panic u => exact h
    · rename_i hw
      rw [if_neg hw]
      exact ⟨h.1, wpListIn_post hs l _ _ h.2⟩
theorem cutL {l : List Oper} (k : Nat) (h1 : TrL ro P ops (Exit.then S' Q) S (l.take k)) (h2 : TrL ro P ops Q S' (l.drop k)) : TrL ro P ops Q S l := by
  intro a w hS
  exact wpListIn_mid k l a w (wpListIn_post (fun a w hs => h2 a w hs) _ a w (h1 a w hS))
theorem upσ {t : Nat} {b c : Bool} {v : Value} (ht : look σ t = some (.bool b)) (hb : b = c) : ∀ a, Slots n σ a → Slots n ((t, .bool c) :: σ) a := fun a h => h.sub (by
  subst hb
  intro u v hu
  simp only [look] at hu
  split at hu
  · rename_i e
    have e' : t = u := Nat.eq_of_beq_eq_true e
    subst e'; cases hu; exact ht
  · exact hu)
/-- 'a && b' -/
theorem andG {l : List Oper} (k t d : Nat) {b b2 : Bool} {σ' : List (Nat × Value)} (ht : look σ t = some (.bool b)) (hσ : subσ σ σ')
    (hT : b = true → TrL ro P ops (Exit.then (St M0 F0 w0 n ((d, .bool b2) :: σ') Ξ Γ) Q) (St M0 F0 w0 n ((t, .bool true) :: σ) Ξ Γ) (l.take k))
    (hF : b = false → TrL ro P ops (Exit.then (St M0 F0 w0 n ((d, .bool false) :: σ') Ξ Γ) Q) (St M0 F0 w0 n ((t, .bool false) :: σ) Ξ Γ) (l.take k))
    (h2 : TrL ro P ops Q (St M0 F0 w0 n ((d, .bool (b && b2)) :: σ') Ξ Γ) (l.drop k)) : TrL ro P ops Q (St M0 F0 w0 n σ Ξ Γ) l := by
  refine cutL k (S' := St M0 F0 w0 n ((d, .bool (b && b2)) :: σ') Ξ Γ) ?_ h2
  rintro a w ⟨hs, hh⟩
  cases b with
  | true => exact hT rfl a w ⟨upσ (v := .bool true) ht rfl a hs, hh⟩
  | false => exact hF rfl a w ⟨upσ (v := .bool true) ht rfl a hs, hh⟩
/-- 'a || b' -/
theorem orG {l : List Oper} (k t d : Nat) {b b2 : Bool} {σ' : List (Nat × Value)} (ht : look σ t = some (.bool b)) (hσ : subσ σ σ')
    (hF : b = false → TrL ro P ops (Exit.then (St M0 F0 w0 n ((d, .bool b2) :: σ') Ξ Γ) Q) (St M0 F0 w0 n ((t, .bool false) :: σ) Ξ Γ) (l.take k))
    (hT : b = true → TrL ro P ops (Exit.then (St M0 F0 w0 n ((d, .bool true) :: σ') Ξ Γ) Q) (St M0 F0 w0 n ((t, .bool true) :: σ) Ξ Γ) (l.take k))
    (h2 : TrL ro P ops Q (St M0 F0 w0 n ((d, .bool (b || b2)) :: σ') Ξ Γ) (l.drop k)) : TrL ro P ops Q (St M0 F0 w0 n σ Ξ Γ) l := by
  refine cutL k (S' := St M0 F0 w0 n ((d, .bool (b || b2)) :: σ') Ξ Γ) ?_ h2
  rintro a w ⟨hs, hh⟩
  cases b with
  | true => exact hT rfl a w ⟨upσ (v := .bool true) ht rfl a hs, hh⟩
  | false => exact hF rfl a w ⟨upσ (v := .bool true) ht rfl a hs, hh⟩
theorem exI {p q : Bool → Prop} {b : Bool} (h1 : p b) (h2 : q b) : ∃ b, p b ∧ q b := ⟨b, h1, h2⟩
theorem andX {l : List Oper} (k t d : Nat) {b : Bool} {σ' : List (Nat × Value)} (ht : look σ t = some (.bool b)) (hσ : subσ σ σ')
    (hF : b = false → TrL ro P ops (Exit.then (St M0 F0 w0 n ((d, .bool false) :: σ') Ξ Γ) Q) (St M0 F0 w0 n ((t, .bool false) :: σ) Ξ Γ) (l.take k))
    (h : ∃ b2, (b = true → TrL ro P ops (Exit.then (St M0 F0 w0 n ((d, .bool b2) :: σ') Ξ Γ) Q) (St M0 F0 w0 n ((t, .bool true) :: σ) Ξ Γ) (l.take k)) ∧
      TrL ro P ops Q (St M0 F0 w0 n ((d, .bool (b && b2)) :: σ') Ξ Γ) (l.drop k)) : TrL ro P ops Q (St M0 F0 w0 n σ Ξ Γ) l := by
  obtain ⟨b2, hT, h2⟩ := h
  exact andG k t d ht hσ hT hF h2
theorem orX {l : List Oper} (k t d : Nat) {b : Bool} {σ' : List (Nat × Value)} (ht : look σ t = some (.bool b)) (hσ : subσ σ σ')
    (hT : b = true → TrL ro P ops (Exit.then (St M0 F0 w0 n ((d, .bool true) :: σ') Ξ Γ) Q) (St M0 F0 w0 n ((t, .bool true) :: σ) Ξ Γ) (l.take k))
    (h : ∃ b2, (b = false → TrL ro P ops (Exit.then (St M0 F0 w0 n ((d, .bool b2) :: σ') Ξ Γ) Q) (St M0 F0 w0 n ((t, .bool false) :: σ) Ξ Γ) (l.take k)) ∧
      TrL ro P ops Q (St M0 F0 w0 n ((d, .bool (b || b2)) :: σ') Ξ Γ) (l.drop k)) : TrL ro P ops Q (St M0 F0 w0 n σ Ξ Γ) l := by
  obtain ⟨b2, hF, h2⟩ := h
  exact orG k t d ht hσ hF hT h2
/-- two ways through a piece of code that meet again -/
theorem cutC {c : Code} (h1 : TrC ro P (Exit.then S' Q) S c) (h2 : TrN Q .normal S') : TrC ro P Q S c := fun a w h => wpIn_mono (h1 a w h) (fun e a w hq => by cases e <;> first | exact hq | exact h2 a w hq)

/-- a guard that was itself passed over -/
theorem yielded_undef {j t : Nat} {o' : Oper} {a : Act} (hj : ops[j]? = some o') (ht : o'.dst = some t) (hb : look σ t = some undef) (hs : Slots n σ a) : yielded ops a.tmps j = none := by
  have := hs.val t _ hb
  cases h : a.tmps[t]? with
  | none => simp [yielded, hj, ht, h]
  | some v =>
    have hv : v = undef := by simpa [Array.getD_eq_getD_getElem?, h] using this
    subst hv
    simp [yielded, hj, ht, h, undef]
theorem lskipu {d' j : Nat} {want : Bool} {op : Op} {l : List Oper} {t : Nat} {o' : Oper} (hj : ops[j]? = some o') (ht : o'.dst = some t) (hb : look σ t = some undef) (hd : Nat.blt d' n.n = true)
    (k : TrL ro P ops Q (St M0 F0 w0 n ((d', undef) :: σ) Ξ Γ) l) : TrL ro P ops Q (St M0 F0 w0 n σ Ξ Γ) (⟨some d', op, ty, pos, af, some (j, want)⟩ :: l) := by
  intro a w hS
  obtain ⟨hs, hh⟩ := hS
  have hy := yielded_undef hj ht hb hs
  unfold wpListIn
  rw [if_neg (by simp [Region.wanted, hy])]
  exact ⟨fun _ _ => trivial, k _ _ ⟨hs.put hd, hh⟩⟩

/-! more on strings, bytes and bools -/
def byteAt (s : ByteArray) (k : Nat) : Nat := (s.data.toList.getD k 0).toNat
theorem p_idxs {T : World → Prop} {x ix : Operand} {t : TypeId} {s : ByteArray} {kd : IntKind} {m : Int} (j : Nat) (hj : j < s.size) (hm : m = (j : Int)) (ht : P.underlying t = some .string) (hx : ev σ x = some (.string s)) (hix : ev σ ix = some (.int kd m)) :
    Pu P n σ T ⟨some d, .index t x ix, ty, pos, af, none⟩ (.int .u8 (byteAt s j : Int)) := by
  subst hm
  intro a hs w _
  have h1 : s[j]? = some s[j] := by simp [hj]
  have h2 : byteAt s j = (s[j]).toNat := by
    unfold byteAt
    rw [List.getD_eq_getElem?_getD, List.getElem?_eq_getElem (by simpa using hj)]
    rfl
  simp [execOp, hs.ev hx, hs.ev hix, Instr.index, run_underlying ht, asIntOf, h1, h2]
theorem p_slt {T : World → Prop} {x y : Operand} {t t' : TypeId} {s u : ByteArray} (hx : ev σ x = some (.string s)) (hy : ev σ y = some (.string u)) :
    Pu P n σ T ⟨some d, .binOp .lss t x y t', ty, pos, af, none⟩ (.bool (Op.bytesLess s.toList u.toList)) :=
  fun a hs w _ => by simp [execOp, hs.ev hx, hs.ev hy, eqGuard_at_string, binOp, Op.stringOp]
theorem p_sgt {T : World → Prop} {x y : Operand} {t t' : TypeId} {s u : ByteArray} (hx : ev σ x = some (.string s)) (hy : ev σ y = some (.string u)) :
    Pu P n σ T ⟨some d, .binOp .gtr t x y t', ty, pos, af, none⟩ (.bool !(Op.bytesLess s.toList u.toList || decide (s = u))) :=
  fun a hs w _ => by simp [execOp, hs.ev hx, hs.ev hy, eqGuard_at_string, binOp, Op.stringOp, str_beq]
theorem p_beq {T : World → Prop} {x y : Operand} {t t' : TypeId} {b c : Bool} (ht : P.underlying t = some .bool) (hx : ev σ x = some (.bool b)) (hy : ev σ y = some (.bool c)) :
    Pu P n σ T ⟨some d, .binOp .eql t x y t', ty, pos, af, none⟩ (.bool (b == c)) :=
  fun a hs w _ => by
    simp only [execOp, hs.ev hx, hs.ev hy, eqGuard_at_bool, Sem.run_bind, Sem.run_pure, Result.andThen_ok, run_eql_bool w t b c ht]
theorem p_nilck {T : World → Prop} {x : Operand} {a' : Addr} (hx : ev σ x = some (.pointer (some a'))) : Pu P n σ T ⟨some d, .nilCheck x, ty, pos, af, none⟩ (.pointer (some a')) :=
  fun a hs w _ => by simp [execOp, hs.ev hx]
end
end Go.Sx

end
section
set_option linter.unusedVariables false
set_option linter.unusedSimpArgs false
namespace Go.Sx
open Go Go.RowKit
/-- what cells hold a row of elements -/
inductive RowE {α : Type} [Rp α] (M : Nat → Prop) (w : World) : List α → List Value → Prop
  | nil : RowE M w [] []
  | snoc {l xs x} (y : Rp.Lay α) : RowE M w l xs → (∀ p ∈ Rp.asn x y, p.p M w) → RowE M w (l ++ [x]) (xs ++ Rp.enc x y)
theorem RowE.st {α : Type} [Rp α] {M M' w w'} {l : List α} {xs : List Value} (h : RowE M w l xs) (hb : ∀ b, b < w.heap.size → ¬ M b → w'.heap[b]? = w.heap[b]?) (hm : ∀ b, b < w.heap.size → M' b → M b) (hs : w.heap.size ≤ w'.heap.size) : RowE M' w' l xs := by
  induction h with
  | nil => exact .nil
  | snoc y h ha ih => exact .snoc y ih (fun p hp => p.st _ _ _ _ (ha p hp) hb hm hs)
theorem RowE.append {α : Type} [Rp α] {M w} {l m : List α} {xs ys : List Value} (h : RowE M w l xs) (k : RowE M w m ys) : RowE M w (l ++ m) (xs ++ ys) := by
  induction k with
  | nil => simpa using h
  | @snoc m ys x y hm ha ih => rw [← List.append_assoc, ← List.append_assoc]; exact .snoc y ih ha
theorem RowE.length {α : Type} [Rp α] {M w} {l : List α} {xs : List Value} (h : RowE M w l xs) : xs.length = l.length * Rp.size α := by
  induction h with
  | nil => simp
  | snoc y h ha ih => simp [ih, Rp.len, Nat.add_mul]
theorem RowE.one {α : Type} [Rp α] {M w} {l : List α} {xs : List Value} (h : RowE M w l xs) : ∀ v ∈ xs, v.oneCell' = true := by
  induction h with
  | nil => intro v hv; cases hv
  | snoc y h ha ih =>
    intro v hv
    rcases List.mem_append.1 hv with hv | hv
    · exact ih v hv
    · exact Rp.one _ y v hv
theorem RowE.at {α : Type} [Rp α] {M w} {l : List α} {xs : List Value} (h : RowE M w l xs) : ∀ (j : Nat) (x : α), l[j]? = some x → ∃ y, (∀ i v, (Rp.enc x y)[i]? = some v → xs[j * Rp.size α + i]? = some v) ∧ ∀ p ∈ Rp.asn x y, p.p M w := by
  induction h with
  | nil => intro j x hj; simp at hj
  | @snoc l xs x y h ha ih =>
    intro j z hj
    rcases Nat.lt_or_ge j l.length with hl | hl
    · rw [List.getElem?_append_left hl] at hj
      obtain ⟨y', h1, h2⟩ := ih j z hj
      refine ⟨y', fun i v hv => ?_, h2⟩
      have := h1 i v hv
      rw [List.getElem?_append_left (List.getElem?_eq_some_iff.1 this).1]
      exact this
    · rw [List.getElem?_append_right hl] at hj
      have hj0 : j - l.length = 0 := by
        have := (List.getElem?_eq_some_iff.1 hj).1
        simpa using this
      have hje : j = l.length := by omega
      subst hje
      simp at hj
      subst hj
      refine ⟨y, fun i v hv => ?_, ha⟩
      rw [← h.length, List.getElem?_append_right (by omega)]
      simpa using hv
/-- a slice whose array is one's own -/
def row {α : Type} [Rp α] (e : TypeId) (A : Option Addr) (c : Nat) (l : List α) : Xsn where
  p F M w := ∃ xs, w.ownsRow 0 e (Rp.size α) (.slice A l.length c) l.length xs ∧ (∀ x, F x ↔ (Value.slice A l.length c).ownBlock = some x) ∧ RowE M w l xs
  st := by
    intro F M M' w w' ⟨xs, h1, h2, h3⟩ hb hm hs
    refine ⟨xs, ⟨h1.1, ?_⟩, h2, h3.st (fun b hlt hn => hb b hlt (.inr hn)) hm hs⟩
    rcases h1.2 with h | ⟨g, cap, cur, hv, h0, hg, r⟩
    · exact .inl h
    · refine .inr ⟨g, cap, cur, hv, h0, ?_, r⟩
      have hlt : g < w.heap.size := (Array.getElem?_eq_some_iff.1 hg).1
      rw [hb g hlt (.inl ((h2 g).2 (by rw [hv]; rfl))), hg]

section
variable {ro : Option Nat} {P : Program} {M0 F0 : Nat → Prop} {w0 : World} {n : Nm} {σ : List (Nat × Value)} {Ξ : List Xsn} {Γ : List Asn} {d : Nat} {ty : TypeId} {pos : String} {af : Array Edge}
variable {ops : Array Oper} {Q : Exit → Act → World → Prop} {S S' : Act → World → Prop}

theorem Hp.push {Fs w} (h : Hp M0 F0 w0 Ξ Γ Fs w) (x : Xsn) (hx : x.p (fun _ => False) (fun b => M0 b ∨ own Fs b) w) : Hp M0 F0 w0 (x :: Ξ) Γ ((fun _ => False) :: Fs) w := by
  have hM : ∀ b, (M0 b ∨ own ((fun _ => False) :: Fs) b) ↔ (M0 b ∨ own Fs b) := fun b => by rw [own_cons]; simp
  exact ⟨⟨x.st _ _ _ _ _ hx (fun _ _ _ => rfl) (fun b _ hb => (hM b).1 hb) (Nat.le_refl _), h.ex.st (fun _ _ _ => rfl) (fun b _ hb => (hM b).1 hb) (Nat.le_refl _)⟩,
    List.pairwise_cons.2 ⟨fun _ _ _ hf => hf.elim, h.dis⟩, fun b hb => (own_cons.1 hb).elim (fun h => h.elim) (h.dis0 b), fun b hb => (own_cons.1 hb).elim (fun h => h.elim) (h.lt b),
    fun b hb => (own_cons.1 hb).elim (fun h => h.elim) (h.old b), fun p hp => p.st _ _ _ _ (h.ga p hp) (fun _ _ _ => rfl) (fun b _ hb => (hM b).1 hb) (Nat.le_refl _), h.up, h.m0, h.f0⟩
/-- the nil slice is one's own -/
theorem nilRow {α : Type} [Rp α] (e : TypeId) {a : Act} {w : World} (h : St M0 F0 w0 n σ Ξ Γ a w) : St M0 F0 w0 n σ (row (α := α) e none 0 [] :: Ξ) Γ a w := by
  obtain ⟨hs, Fs, hh⟩ := h
  exact ⟨hs, _, hh.push _ ⟨[], ⟨by simp, .inl ⟨rfl, rfl⟩⟩, fun x => by simp [Value.ownBlock], .nil⟩⟩
/-- what was one's own is given away: it is data now -/
theorem freeze {α : Type} [Rp α] {e : TypeId} {A : Option Addr} {c : Nat} {l : List α} {i : Nat} {Ξ' : List Xsn} {a : Act} {w : World} (hi : takeAt i Ξ = some (row e A c l, Ξ')) (h : St M0 F0 w0 n σ Ξ Γ a w) : St M0 F0 w0 n σ Ξ' (slA A l :: Γ) a w := by
  obtain ⟨hs, Fs, hh⟩ := h
  obtain ⟨F, Fs', h1, ⟨xs, ho, hF, hr⟩, h3⟩ := hh.ex.takeAt hi
  have hp := takeAt_perm h1
  have hown : ∀ b, own Fs b ↔ F b ∨ own Fs' b := fun b => (own_perm hp b).trans own_cons
  have hpw := List.pairwise_cons.1 (perm_pairwise hp hh.dis)
  have hM : ∀ b, b < w.heap.size → (M0 b ∨ own Fs' b) → (M0 b ∨ own Fs b) := fun b _ hm => hm.imp id (fun h => (hown b).2 (.inr h))
  have hr' : RowE (fun b => M0 b ∨ own Fs' b) w l xs := hr.st (fun _ _ _ => rfl) hM (Nat.le_refl _)
  refine ⟨hs, Fs', h3.st (fun _ _ _ => rfl) hM (Nat.le_refl _), hpw.2, fun b hb => hh.dis0 b ((hown b).2 (.inr hb)), fun b hb => hh.lt b ((hown b).2 (.inr hb)), fun b hb => hh.old b ((hown b).2 (.inr hb)), ?_, hh.up, hh.m0, hh.f0⟩
  intro p hp'
  rcases List.mem_cons.1 hp' with rfl | hp'
  · intro j x hj
    obtain ⟨y, hy, ha⟩ := hr'.at j x hj
    have hl := (List.getElem?_eq_some_iff.1 hj).1
    rcases ho.2 with ⟨_, h0⟩ | ⟨g, cap, cur, hv, _, hg, _, _, _, htk⟩
    · omega
    · have hA : A = some ⟨g, 0, none⟩ := by injection hv
      have hFg : F g := (hF g).2 (by rw [hv]; rfl)
      refine ⟨g, 0, y, hA, ?_, (Array.getElem?_eq_some_iff.1 hg).1, fun i v hv' => ?_, ha⟩
      · rintro (hm | ⟨G, hG, hg'⟩)
        · exact hh.dis0 g ((hown g).2 (.inl hFg)) hm
        · exact hpw.1 G hG g hFg hg'
      · have h1 := hy i v hv'
        have h2 : cur.toList[j * Rp.size α + i]? = some v := by
          rw [← htk] at h1
          have hlt := (List.getElem?_eq_some_iff.1 h1).1
          rw [List.getElem?_take_of_lt (by simp at hlt; omega)] at h1
          exact h1
        simp only [World.cell?, hg, Nat.zero_add]
        simpa using h2
  · exact p.st _ _ _ _ (hh.ga p hp') (fun _ _ _ => rfl) hM (Nat.le_refl _)
/-- a new block that is one's own -/
theorem Hp.alloc' {Fs w} (h : Hp M0 F0 w0 Ξ Γ Fs w) (o : Obj) (x : Xsn) (hx : x.p (fun b => b = w.heap.size) (fun b => M0 b ∨ own ((fun b => b = w.heap.size) :: Fs) b) (w.alloc o)) : Hp M0 F0 w0 (x :: Ξ) Γ ((fun b => b = w.heap.size) :: Fs) (w.alloc o) := by
  have hsz := h.up.size
  have hold : ∀ b, b < w.heap.size → (w.alloc o).heap[b]? = w.heap[b]? := fun b hb => Below.heap_alloc w _ b hb
  have hM : ∀ b, b < w.heap.size → (M0 b ∨ own ((fun x => x = w.heap.size) :: Fs) b) → (M0 b ∨ own Fs b) := by
    intro b hb hm
    rcases hm with hm | hm
    · exact .inl hm
    · rcases own_cons.1 hm with e | e
      · omega
      · exact .inr e
  refine ⟨⟨hx, ?_⟩, ?_, ?_, ?_, ?_, ?_, ?_, h.m0, h.f0⟩
  · exact h.ex.st (fun b hb _ => hold b hb) hM (by simp)
  · refine List.pairwise_cons.2 ⟨fun G hG b hb hg => ?_, h.dis⟩
    have := h.lt b ⟨G, hG, hg⟩
    omega
  · intro b hb
    rcases own_cons.1 hb with e | e
    · intro hm; have := h.m0 b hm; omega
    · exact h.dis0 b e
  · intro b hb
    rcases own_cons.1 hb with e | e
    · subst e; simp
    · have := h.lt b e; simp; omega
  · intro b hb hlt
    rcases own_cons.1 hb with e | e
    · omega
    · exact h.old b e hlt
  · exact fun p hp => p.st _ _ _ _ (h.ga p hp) (fun b hb _ => hold b hb) hM (by simp)
  · exact h.up.trans (G := fun _ => False) ⟨rfl, rfl, rfl, by simp, fun b hb _ => hold b hb⟩ (fun _ _ h => h.elim)
end
end Go.Sx

end
