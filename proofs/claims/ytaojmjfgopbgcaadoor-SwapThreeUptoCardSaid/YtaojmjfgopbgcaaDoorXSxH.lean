/- OWN WORK: a part of the proof of a law of the seat YtaojmjfgopbgcaaDoor: the rules by which the code is walked. -/
import Derived.Test.YtaojmjfgopbgcaaDoorXSxG
import Derived.Maps.AppendAt
set_option linter.unusedVariables false
set_option linter.unusedSimpArgs false
namespace Go.Sx
open Go Go.RowKit
/-- what cells hold a row of elements -/
inductive RowE {α : Type} [Rp α] (M : Nat → Prop) (w : World) : List α → List Value → Prop
  | nil : RowE M w [] []
  | snoc {l xs x} (y : Rp.Lay α) : RowE M w l xs → (∀ p ∈ Rp.asn x y, p.p M w) → RowE M w (l ++ [x]) (xs ++ Rp.enc x y)
theorem RowE.st {α : Type} [Rp α] {M M' w w'} {l : List α} {xs : List Value} (h : RowE M w l xs) (hb : ∀ b, b < w.heap.size → ¬ M b → w'.heap[b]? = w.heap[b]?) (hm : ∀ b, b < w.heap.size → M' b → M b) (hs : w.heap.size ≤ w'.heap.size) : RowE M' w' l xs := by
  induction h with
  | nil => exact .nil
  | snoc y h ha ih => exact .snoc y ih (fun p hp => p.st _ _ _ _ (ha p hp) hb hm hs)
theorem RowE.append {α : Type} [Rp α] {M w} {l m : List α} {xs ys : List Value} (h : RowE M w l xs) (k : RowE M w m ys) : RowE M w (l ++ m) (xs ++ ys) := by
  induction k with
  | nil => simpa using h
  | @snoc m ys x y hm ha ih => rw [← List.append_assoc, ← List.append_assoc]; exact .snoc y ih ha
theorem RowE.length {α : Type} [Rp α] {M w} {l : List α} {xs : List Value} (h : RowE M w l xs) : xs.length = l.length * Rp.size α := by
  induction h with
  | nil => simp
  | snoc y h ha ih => simp [ih, Rp.len, Nat.add_mul]
theorem RowE.one {α : Type} [Rp α] {M w} {l : List α} {xs : List Value} (h : RowE M w l xs) : ∀ v ∈ xs, v.oneCell' = true := by
  induction h with
  | nil => intro v hv; cases hv
  | snoc y h ha ih =>
    intro v hv
    rcases List.mem_append.1 hv with hv | hv
    · exact ih v hv
    · exact Rp.one _ y v hv
theorem RowE.at {α : Type} [Rp α] {M w} {l : List α} {xs : List Value} (h : RowE M w l xs) : ∀ (j : Nat) (x : α), l[j]? = some x → ∃ y, (∀ i v, (Rp.enc x y)[i]? = some v → xs[j * Rp.size α + i]? = some v) ∧ ∀ p ∈ Rp.asn x y, p.p M w := by
  induction h with
  | nil => intro j x hj; simp at hj
  | @snoc l xs x y h ha ih =>
    intro j z hj
    rcases Nat.lt_or_ge j l.length with hl | hl
    · rw [List.getElem?_append_left hl] at hj
      obtain ⟨y', h1, h2⟩ := ih j z hj
      refine ⟨y', fun i v hv => ?_, h2⟩
      have := h1 i v hv
      rw [List.getElem?_append_left (List.getElem?_eq_some_iff.1 this).1]
      exact this
    · rw [List.getElem?_append_right hl] at hj
      have hj0 : j - l.length = 0 := by
        have := (List.getElem?_eq_some_iff.1 hj).1
        simpa using this
      have hje : j = l.length := by omega
      subst hje
      simp at hj
      subst hj
      refine ⟨y, fun i v hv => ?_, ha⟩
      rw [← h.length, List.getElem?_append_right (by omega)]
      simpa using hv
/-- a slice whose array is one's own -/
def row {α : Type} [Rp α] (e : TypeId) (A : Option Addr) (c : Nat) (l : List α) : Xsn where
  p F M w := ∃ xs, w.ownsRow 0 e (Rp.size α) (.slice A l.length c) l.length xs ∧ (∀ x, F x ↔ (Value.slice A l.length c).ownBlock = some x) ∧ RowE M w l xs
  st := by
    intro F M M' w w' ⟨xs, h1, h2, h3⟩ hb hm hs
    refine ⟨xs, ⟨h1.1, ?_⟩, h2, h3.st (fun b hlt hn => hb b hlt (.inr hn)) hm hs⟩
    rcases h1.2 with h | ⟨g, cap, cur, hv, h0, hg, r⟩
    · exact .inl h
    · refine .inr ⟨g, cap, cur, hv, h0, ?_, r⟩
      have hlt : g < w.heap.size := (Array.getElem?_eq_some_iff.1 hg).1
      rw [hb g hlt (.inl ((h2 g).2 (by rw [hv]; rfl))), hg]

section
variable {P : Program} {M0 F0 : Nat → Prop} {w0 : World} {n : Nat} {σ : List (Nat × Value)} {Ξ : List Xsn} {Γ : List Asn} {d : Nat} {ty : TypeId} {pos : String} {af : Array Edge}
variable {ops : Array Oper} {Q : Exit → Act → World → Prop} {S S' : Act → World → Prop}

theorem Hp.push {Fs w} (h : Hp M0 F0 w0 Ξ Γ Fs w) (x : Xsn) (hx : x.p (fun _ => False) (fun b => M0 b ∨ own Fs b) w) : Hp M0 F0 w0 (x :: Ξ) Γ ((fun _ => False) :: Fs) w := by
  have hM : ∀ b, (M0 b ∨ own ((fun _ => False) :: Fs) b) ↔ (M0 b ∨ own Fs b) := fun b => by rw [own_cons]; simp
  exact ⟨⟨x.st _ _ _ _ _ hx (fun _ _ _ => rfl) (fun b _ hb => (hM b).1 hb) (Nat.le_refl _), h.ex.st (fun _ _ _ => rfl) (fun b _ hb => (hM b).1 hb) (Nat.le_refl _)⟩,
    List.pairwise_cons.2 ⟨fun _ _ _ hf => hf.elim, h.dis⟩, fun b hb => (own_cons.1 hb).elim (fun h => h.elim) (h.dis0 b), fun b hb => (own_cons.1 hb).elim (fun h => h.elim) (h.lt b),
    fun b hb => (own_cons.1 hb).elim (fun h => h.elim) (h.old b), fun p hp => p.st _ _ _ _ (h.ga p hp) (fun _ _ _ => rfl) (fun b _ hb => (hM b).1 hb) (Nat.le_refl _), h.up, h.m0, h.f0⟩
/-- the nil slice is one's own -/
theorem nilRow {α : Type} [Rp α] (e : TypeId) {a : Act} {w : World} (h : St M0 F0 w0 n σ Ξ Γ a w) : St M0 F0 w0 n σ (row (α := α) e none 0 [] :: Ξ) Γ a w := by
  obtain ⟨hs, Fs, hh⟩ := h
  exact ⟨hs, _, hh.push _ ⟨[], ⟨by simp, .inl ⟨rfl, rfl⟩⟩, fun x => by simp [Value.ownBlock], .nil⟩⟩
/-- what was one's own is given away: it is data now -/
theorem freeze {α : Type} [Rp α] {e : TypeId} {A : Option Addr} {c : Nat} {l : List α} {i : Nat} {Ξ' : List Xsn} {a : Act} {w : World} (hi : takeAt i Ξ = some (row e A c l, Ξ')) (h : St M0 F0 w0 n σ Ξ Γ a w) : St M0 F0 w0 n σ Ξ' (slA A l :: Γ) a w := by
  obtain ⟨hs, Fs, hh⟩ := h
  obtain ⟨F, Fs', h1, ⟨xs, ho, hF, hr⟩, h3⟩ := hh.ex.takeAt hi
  have hp := takeAt_perm h1
  have hown : ∀ b, own Fs b ↔ F b ∨ own Fs' b := fun b => (own_perm hp b).trans own_cons
  have hpw := List.pairwise_cons.1 (perm_pairwise hp hh.dis)
  have hM : ∀ b, b < w.heap.size → (M0 b ∨ own Fs' b) → (M0 b ∨ own Fs b) := fun b _ hm => hm.imp id (fun h => (hown b).2 (.inr h))
  have hr' : RowE (fun b => M0 b ∨ own Fs' b) w l xs := hr.st (fun _ _ _ => rfl) hM (Nat.le_refl _)
  refine ⟨hs, Fs', h3.st (fun _ _ _ => rfl) hM (Nat.le_refl _), hpw.2, fun b hb => hh.dis0 b ((hown b).2 (.inr hb)), fun b hb => hh.lt b ((hown b).2 (.inr hb)), fun b hb => hh.old b ((hown b).2 (.inr hb)), ?_, hh.up, hh.m0, hh.f0⟩
  intro p hp'
  rcases List.mem_cons.1 hp' with rfl | hp'
  · intro j x hj
    obtain ⟨y, hy, ha⟩ := hr'.at j x hj
    have hl := (List.getElem?_eq_some_iff.1 hj).1
    rcases ho.2 with ⟨_, h0⟩ | ⟨g, cap, cur, hv, _, hg, _, _, _, htk⟩
    · omega
    · have hA : A = some ⟨g, 0, none⟩ := by injection hv
      have hFg : F g := (hF g).2 (by rw [hv]; rfl)
      refine ⟨g, 0, y, hA, ?_, (Array.getElem?_eq_some_iff.1 hg).1, fun i v hv' => ?_, ha⟩
      · rintro (hm | ⟨G, hG, hg'⟩)
        · exact hh.dis0 g ((hown g).2 (.inl hFg)) hm
        · exact hpw.1 G hG g hFg hg'
      · have h1 := hy i v hv'
        have h2 : cur.toList[j * Rp.size α + i]? = some v := by
          rw [← htk] at h1
          have hlt := (List.getElem?_eq_some_iff.1 h1).1
          rw [List.getElem?_take_of_lt (by simp at hlt; omega)] at h1
          exact h1
        simp only [World.cell?, hg, Nat.zero_add]
        simpa using h2
  · exact p.st _ _ _ _ (hh.ga p hp') (fun _ _ _ => rfl) hM (Nat.le_refl _)
/-- a new block that is one's own -/
theorem Hp.alloc' {Fs w} (h : Hp M0 F0 w0 Ξ Γ Fs w) (o : Obj) (x : Xsn) (hx : x.p (fun b => b = w.heap.size) (fun b => M0 b ∨ own ((fun b => b = w.heap.size) :: Fs) b) (w.alloc o)) : Hp M0 F0 w0 (x :: Ξ) Γ ((fun b => b = w.heap.size) :: Fs) (w.alloc o) := by
  have hsz := h.up.size
  have hold : ∀ b, b < w.heap.size → (w.alloc o).heap[b]? = w.heap[b]? := fun b hb => Below.heap_alloc w _ b hb
  have hM : ∀ b, b < w.heap.size → (M0 b ∨ own ((fun x => x = w.heap.size) :: Fs) b) → (M0 b ∨ own Fs b) := by
    intro b hb hm
    rcases hm with hm | hm
    · exact .inl hm
    · rcases own_cons.1 hm with e | e
      · omega
      · exact .inr e
  refine ⟨⟨hx, ?_⟩, ?_, ?_, ?_, ?_, ?_, ?_, h.m0, h.f0⟩
  · exact h.ex.st (fun b hb _ => hold b hb) hM (by simp)
  · refine List.pairwise_cons.2 ⟨fun G hG b hb hg => ?_, h.dis⟩
    have := h.lt b ⟨G, hG, hg⟩
    omega
  · intro b hb
    rcases own_cons.1 hb with e | e
    · intro hm; have := h.m0 b hm; omega
    · exact h.dis0 b e
  · intro b hb
    rcases own_cons.1 hb with e | e
    · subst e; simp
    · have := h.lt b e; simp; omega
  · intro b hb hlt
    rcases own_cons.1 hb with e | e
    · omega
    · exact h.old b e hlt
  · exact fun p hp => p.st _ _ _ _ (h.ga p hp) (fun b hb _ => hold b hb) hM (by simp)
  · exact h.up.trans (G := fun _ => False) ⟨rfl, rfl, rfl, by simp, fun b hb _ => hold b hb⟩ (fun _ _ h => h.elim)
end
end Go.Sx
