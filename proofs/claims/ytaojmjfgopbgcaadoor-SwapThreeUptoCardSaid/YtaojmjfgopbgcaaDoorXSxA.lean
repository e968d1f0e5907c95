/- OWN WORK: a part of the proof of a law of the seat YtaojmjfgopbgcaaDoor: the rules by which the code is walked. -/
import Derived.WalkKit
import Derived.Orders
import Derived.OrdersHeld
set_option linter.unusedVariables false
set_option linter.unusedSimpArgs false
namespace Go.Sx
open Go Go.RowKit

/-! ### slots -/
def look : List (Nat × Value) → Nat → Option Value
  | [], _ => none
  | (k, v) :: l, t => match Nat.beq k t with
    | true => some v
    | false => look l t
def ev (σ : List (Nat × Value)) : Operand → Option Value
  | .tmp t => look σ t
  | .const v => some v
  | .func f => some (.func (.func f) #[] #[])
  | .global g => some (.pointer (some ⟨g, 0, none⟩))
def evL (σ : List (Nat × Value)) : List Operand → Option (List Value)
  | [] => some []
  | x :: l => match ev σ x, evL σ l with
    | some v, some vs => some (v :: vs)
    | _, _ => none
structure Slots (n : Nat) (σ : List (Nat × Value)) (a : Act) : Prop where
  defers : a.defers = []
  size : a.tmps.size = n
  val : ∀ t v, look σ t = some v → a.tmps.getD t undef = v
theorem Slots.ev {n σ a} (h : Slots n σ a) {x : Operand} {v : Value} (hx : ev σ x = some v) : a.eval x = v := by
  cases x with
  | tmp t => exact h.val t v hx
  | const u => exact Option.some.inj hx
  | global g => exact Option.some.inj hx
  | func f => exact Option.some.inj hx
theorem Slots.evL {n σ a} (h : Slots n σ a) : ∀ {l : List Operand} {vs : List Value}, evL σ l = some vs → l.map a.eval = vs
  | [], vs, hx => by cases hx; rfl
  | x :: l, vs, hx => by
    unfold Sx.evL at hx
    split at hx
    · rename_i v vs' h1 h2
      cases hx
      simp [h.ev h1, Slots.evL h h2]
    · cases hx
theorem Slots.put {n σ a} (h : Slots n σ a) {d : Nat} {v : Value} (hd : Nat.blt d n = true) : Slots n ((d, v) :: σ) (a.put (some d) v) where
  defers := h.defers
  size := by simp [Act.put, h.size]
  val := by
    intro t u ht
    simp only [look] at ht
    have hd' : d < a.tmps.size := by rw [h.size]; simpa [Nat.blt_eq] using hd
    split at ht
    · rename_i e
      have e' : d = t := Nat.eq_of_beq_eq_true e
      subst e'
      cases ht
      simp [Act.put, hd']
    · rename_i e
      have e' : d ≠ t := Nat.ne_of_beq_eq_false e
      have := h.val t u ht
      simpa [Act.put, Array.getD_eq_getD_getElem?, Array.getElem?_setIfInBounds, e'] using this
theorem Slots.put_none {n σ a} (h : Slots n σ a) (v : Value) : Slots n σ (a.put none v) := h
/-- forgetting -/
def subσ (σ σ' : List (Nat × Value)) : Prop := ∀ t v, look σ' t = some v → look σ t = some v
theorem Slots.sub {n σ σ' a} (h : Slots n σ a) (hs : subσ σ σ') : Slots n σ' a := ⟨h.defers, h.size, fun t v ht => h.val t v (hs t v ht)⟩
theorem subσ.nil (σ) : subσ σ [] := fun t v h => by cases h
theorem subσ.cons {σ σ' : List (Nat × Value)} {t : Nat} {v : Value} (h : look σ t = some v) (hs : subσ σ σ') : subσ σ ((t, v) :: σ') := by
  intro u x hx
  simp only [look] at hx
  split at hx
  · rename_i e
    have e' : t = u := Nat.eq_of_beq_eq_true e
    subst e'; cases hx; exact h
  · exact hs u x hx
theorem subσ.refl (σ) : subσ σ σ := fun _ _ h => h

/-! ### the heap: exclusive blocks and data -/
def own (Fs : List (Nat → Prop)) (b : Nat) : Prop := ∃ F ∈ Fs, F b
theorem own_nil (b : Nat) : ¬ own [] b := fun ⟨_, h, _⟩ => by cases h
theorem own_cons {F Fs b} : own (F :: Fs) b ↔ F b ∨ own Fs b := by simp [own]
theorem own_append {Fs Gs b} : own (Fs ++ Gs) b ↔ own Fs b ∨ own Gs b := by
  simp only [own, List.mem_append, or_and_right, exists_or]

/-- a fact on memory that nobody writes (M: the blocks that may be written) -/
structure Asn where
  p : (Nat → Prop) → World → Prop
  st : ∀ M M' w w', p M w → (∀ b, b < w.heap.size → ¬ M b → w'.heap[b]? = w.heap[b]?) → (∀ b, b < w.heap.size → M' b → M b) → w.heap.size ≤ w'.heap.size → p M' w'
/-- a fact on blocks that are somebody's own (F: those) -/
structure Xsn where
  p : (Nat → Prop) → (Nat → Prop) → World → Prop
  st : ∀ F M M' w w', p F M w → (∀ b, b < w.heap.size → (F b ∨ ¬ M b) → w'.heap[b]? = w.heap[b]?) → (∀ b, b < w.heap.size → M' b → M b) → w.heap.size ≤ w'.heap.size → p F M' w'

/-- what has become of a world -/
structure Upd (F : Nat → Prop) (w w' : World) : Prop where
  os : w'.os = w.os
  tape : w'.tape = w.tape
  output : w'.output = w.output
  size : w.heap.size ≤ w'.heap.size
  block : ∀ b, b < w.heap.size → ¬ F b → w'.heap[b]? = w.heap[b]?
theorem Upd.refl (F w) : Upd F w w := ⟨rfl, rfl, rfl, Nat.le_refl _, fun _ _ _ => rfl⟩
theorem Upd.trans {F w w1 w2} (h : Upd F w w1) {G} (k : Upd G w1 w2) (hG : ∀ b, b < w.heap.size → G b → F b) : Upd F w w2 :=
  ⟨k.os.trans h.os, k.tape.trans h.tape, k.output.trans h.output, Nat.le_trans h.size k.size, fun b hb hF =>
    (k.block b (Nat.lt_of_lt_of_le hb h.size) (fun hg => hF (hG b hb hg))).trans (h.block b hb hF)⟩
theorem Upd.of_below {w w'} (h : Below w.heap.size w w') (F) : Upd F w w' := ⟨h.os, h.tape, h.output, h.size, fun b hb _ => h.block b hb⟩
theorem Upd.below {F w w'} (h : Upd F w w') (hF : ∀ b, b < w.heap.size → ¬ F b) : Below w.heap.size w w' := ⟨h.os, h.tape, h.output, h.size, fun b hb => h.block b hb (hF b hb)⟩

def all2 (M : Nat → Prop) (w : World) : List Xsn → List (Nat → Prop) → Prop
  | [], [] => True
  | x :: Ξ, F :: Fs => x.p F M w ∧ all2 M w Ξ Fs
  | _, _ => False
theorem all2.st {M M' w w'} : ∀ {Ξ Fs}, all2 M w Ξ Fs → (∀ b, b < w.heap.size → (own Fs b ∨ ¬ M b) → w'.heap[b]? = w.heap[b]?) → (∀ b, b < w.heap.size → M' b → M b) → w.heap.size ≤ w'.heap.size → all2 M' w' Ξ Fs
  | [], [], _, _, _, _ => trivial
  | x :: Ξ, F :: Fs, h, hb, hm, hs => ⟨x.st F M M' w w' h.1 (fun b hlt hF => hb b hlt (hF.imp (fun h => own_cons.2 (.inl h)) id)) hm hs,
      all2.st h.2 (fun b hlt hF => hb b hlt (hF.imp (fun h => own_cons.2 (.inr h)) id)) hm hs⟩
  | [], _ :: _, h, _, _, _ => h.elim
  | _ :: _, [], h, _, _, _ => h.elim

structure Hp (M0 F0 : Nat → Prop) (w0 : World) (Ξ : List Xsn) (Γ : List Asn) (Fs : List (Nat → Prop)) (w : World) : Prop where
  ex : all2 (fun b => M0 b ∨ own Fs b) w Ξ Fs
  dis : Fs.Pairwise (fun F G => ∀ b, F b → ¬ G b)
  dis0 : ∀ b, own Fs b → ¬ M0 b
  lt : ∀ b, own Fs b → b < w.heap.size
  old : ∀ b, own Fs b → b < w0.heap.size → F0 b
  ga : ∀ p ∈ Γ, p.p (fun b => M0 b ∨ own Fs b) w
  up : Upd F0 w0 w
  m0 : ∀ b, M0 b → b < w0.heap.size
  f0 : ∀ b, F0 b → ¬ M0 b

/-- the state of a walk -/
def St (M0 F0 : Nat → Prop) (w0 : World) (n : Nat) (σ : List (Nat × Value)) (Ξ : List Xsn) (Γ : List Asn) (a : Act) (w : World) : Prop :=
  Slots n σ a ∧ ∃ Fs, Hp M0 F0 w0 Ξ Γ Fs w

/-- a world with the same memory -/
theorem Hp.same {M0 F0 w0 Ξ Γ Fs w} (h : Hp M0 F0 w0 Ξ Γ Fs w) {w' : World} (hh : w'.heap = w.heap) (ho : w'.os = w.os) (ht : w'.tape = w.tape) (hu : w'.output = w.output) : Hp M0 F0 w0 Ξ Γ Fs w' where
  ex := h.ex.st (fun b _ _ => by rw [hh]) (fun b _ hb => hb) (by rw [hh]; exact Nat.le_refl _)
  dis := h.dis
  dis0 := h.dis0
  lt := by rw [hh]; exact h.lt
  old := h.old
  ga := fun p hp => p.st _ _ _ _ (h.ga p hp) (fun b _ _ => by rw [hh]) (fun b _ hb => hb) (by rw [hh]; exact Nat.le_refl _)
  up := h.up.trans (G := F0) ⟨ho, ht, hu, by rw [hh]; exact Nat.le_refl _, fun b _ _ => by rw [hh]⟩ (fun _ _ h => h)
  m0 := h.m0
  f0 := h.f0

/-- a block that is a variable's -/
def box (b : Nat) (t : TypeId) (cs : List Value) : Xsn where
  p F M w := (∀ x, F x ↔ x = b) ∧ w.heap[b]? = some (.cells cs.toArray t (0, 0))
  st := by
    intro F M M' w w' ⟨h1, h2⟩ hb _ _
    have hlt : b < w.heap.size := (Array.getElem?_eq_some_iff.1 h2).1
    exact ⟨h1, by rw [hb b hlt (.inl ((h1 b).2 rfl)), h2]⟩

theorem Hp.alloc {M0 F0 w0 Ξ Γ Fs w} (h : Hp M0 F0 w0 Ξ Γ Fs w) (t : TypeId) (cs : List Value) :
    ∃ Fs', Hp M0 F0 w0 (box w.heap.size t cs :: Ξ) Γ Fs' (w.alloc (.cells cs.toArray t)) := by
  have hsz := h.up.size
  have hold : ∀ b, b < w.heap.size → (w.alloc (.cells cs.toArray t)).heap[b]? = w.heap[b]? := fun b hb => Below.heap_alloc w _ b hb
  have hM : ∀ b, b < w.heap.size → (M0 b ∨ own ((fun x => x = w.heap.size) :: Fs) b) → (M0 b ∨ own Fs b) := by
    intro b hb hm
    rcases hm with hm | hm
    · exact .inl hm
    · rcases own_cons.1 hm with e | e
      · omega
      · exact .inr e
  refine ⟨(fun x => x = w.heap.size) :: Fs, ⟨⟨⟨fun x => Iff.rfl, ?_⟩, ?_⟩, ?_, ?_, ?_, ?_, ?_, ?_, h.m0, h.f0⟩⟩
  · show (w.heap.push _)[w.heap.size]? = _
    simp
  · exact h.ex.st (fun b hb _ => hold b hb) hM (by simp)
  · refine List.pairwise_cons.2 ⟨fun G hG b hb hg => ?_, h.dis⟩
    have := h.lt b ⟨G, hG, hg⟩
    omega
  · intro b hb
    rcases own_cons.1 hb with e | e
    · intro hm; have := h.m0 b hm; omega
    · exact h.dis0 b e
  · intro b hb
    rcases own_cons.1 hb with e | e
    · subst e; simp
    · have := h.lt b e; simp; omega
  · intro b hb hlt
    rcases own_cons.1 hb with e | e
    · omega
    · exact h.old b e hlt
  · exact fun p hp => p.st _ _ _ _ (h.ga p hp) (fun b hb _ => hold b hb) hM (by simp)
  · exact h.up.trans (G := fun _ => False) ⟨rfl, rfl, rfl, by simp, fun b hb _ => hold b hb⟩ (fun _ _ h => h.elim)

/-- the exclusive fact at a place -/
theorem all2.at {M w} : ∀ {Ξ Fs} {i : Nat} {x : Xsn}, all2 M w Ξ Fs → Ξ[i]? = some x → ∃ F, Fs[i]? = some F ∧ x.p F M w
  | x :: Ξ, F :: Fs, 0, y, h, hi => by
    have : x = y := by simpa using hi
    subst this
    exact ⟨F, rfl, h.1⟩
  | x :: Ξ, F :: Fs, i + 1, y, h, hi => all2.at (i := i) h.2 (by simpa using hi)
  | [], [], i, y, _, hi => by simp at hi
  | [], _ :: _, _, _, h, _ => h.elim
  | _ :: _, [], _, _, h, _ => h.elim

theorem Hp.cell {M0 F0 w0 Ξ Γ Fs w} (h : Hp M0 F0 w0 Ξ Γ Fs w) {i b : Nat} {t : TypeId} {cs : List Value} (hi : Ξ[i]? = some (box b t cs)) : w.heap[b]? = some (.cells cs.toArray t (0, 0)) := by
  obtain ⟨F, _, hp⟩ := h.ex.at hi
  exact hp.2
end Go.Sx
