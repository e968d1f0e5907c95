/- OWN WORK: a part of the proof of a law of the seat YtaojmjfgopbgcaaDoor: contracts of the library. -/
import Derived.Test.YtaojmjfgopbgcaaDoorXDef
set_option linter.unusedVariables false
set_option linter.unusedSimpArgs false
namespace Go.Sx
open Go
theorem meets_comm (p q : Prim) : p.meets q = q.meets p := by
  rw [Bool.eq_iff_iff]
  unfold Prim.meets
  simp only [List.any_eq_true, decide_eq_true_eq]
  constructor
  · rintro ⟨a, ha, b, hb, rfl⟩; exact ⟨b, hb, b, ha, rfl⟩
  · rintro ⟨a, ha, b, hb, rfl⟩; exact ⟨b, hb, b, ha, rfl⟩
theorem flip_names (p : Prim) : p.flip.names.Perm p.names := by
  unfold Prim.flip Prim.names
  by_cases h0 : p.kind = 0
  · simp [h0]
  · by_cases h1 : p.kind = 1 ∨ p.kind = 2
    · rw [if_neg h0, if_pos h1]
      rcases h1 with h | h <;> simp [h]
    · rw [if_neg h0, if_neg h1]
      by_cases h3 : p.kind = 3
      · simp only [h3, if_true]
        exact List.Perm.swap _ _ _
      · simp [h3]
theorem meets_flip (p q : Prim) : p.flip.meets q = p.meets q := by
  unfold Prim.meets
  exact any_perm (flip_names p)
theorem flip_flip (p : Prim) : p.flip.flip = p := by
  obtain ⟨k, a, b, n, o, w⟩ := p
  unfold Prim.flip
  by_cases h0 : k = 0
  · simp [h0]
  · by_cases h1 : k = 1
    · simp [h1]
    · by_cases h2 : k = 2
      · simp [h2]
      · by_cases h3 : k = 3
        · simp [h3]
        · simp [h0, h1, h2, h3]
theorem flip_kind (p : Prim) : (p.flip.kind = 0 ↔ p.kind = 0) ∧ (p.flip.kind = 3 ↔ p.kind = 3) := by
  unfold Prim.flip
  split
  · simp_all
  · split
    · rename_i h0 h
      show (3 - p.kind = 0 ↔ p.kind = 0) ∧ (3 - p.kind = 3 ↔ p.kind = 3)
      omega
    · split
      · simp_all
      · simp_all
theorem flip_right (p : Prim) : p.flip.right = p.right := by
  obtain ⟨k, a, b, n, o, w⟩ := p
  unfold Prim.flip Prim.right Prim.bare
  by_cases h0 : k = 0
  · simp only [h0, if_true]
    rw [show decide (w = o) = decide (o = w) from by by_cases h : o = w <;> simp [h, eq_comm]]
    cases nameOk a <;> cases decide (b = ⟨#[]⟩) <;> cases decide (0 ≤ n) <;> cases decide (n ≤ 1048576) <;> cases o.all lineOk <;> cases w.all lineOk <;> simp
  · by_cases h1 : k = 1
    · simp [h1]
    · by_cases h2 : k = 2
      · simp [h2]
      · by_cases h3 : k = 3
        · simp only [h3]
          simp only [show ¬ ((3 : Int) = 0) by decide, show ¬ ((3 : Int) = 1 ∨ (3 : Int) = 2) by decide, if_true, if_false]
          rw [dcomm a b]
          cases nameOk a <;> cases nameOk b <;> simp
        · simp [h0, h1, h2, h3]
/-- what a swap tells, if it is one -/
theorem swap_true {p q a b : Prim} (h : swap p q = (a, b, true)) : swapped p q = (a, b, true) ∧ p.right = true ∧ q.right = true ∧ a.right = true ∧ b.right = true := by
  unfold swap at h
  split at h
  · rename_i hc
    simp only [Bool.and_eq_true] at hc
    obtain ⟨⟨⟨⟨h1, h2⟩, h3⟩, h4⟩, h5⟩ := hc
    simp only [Prod.mk.injEq, and_true] at h
    obtain ⟨rfl, rfl⟩ := h
    refine ⟨?_, h1, h2, h4, h5⟩
    rw [← h3]
  · simp at h
theorem swap_mk {p q a b : Prim} (h : swapped p q = (a, b, true)) (h1 : p.right = true) (h2 : q.right = true) (h3 : a.right = true) (h4 : b.right = true) : swap p q = (a, b, true) := by
  unfold swap
  rw [h]
  simp [h1, h2, h3, h4]
theorem swap_false {p q : Prim} (h : (swap p q).2.2 = false) : swap p q = (.zero, .zero, false) := by
  unfold swap at h ⊢
  split at h
  · simp at h
  · rename_i hc; rw [if_neg hc]
/-- the ways that a swap can go -/
theorem swapped_cases {p q a b : Prim} (h : swapped p q = (a, b, true)) :
    (p.kind = 0 ∧ q.kind = 0 ∧ p.name = q.name ∧ p.pos + p.new.length < q.pos ∧ a = { q with pos := q.pos - ((p.new.length : Int) - p.old.length) } ∧ b = p) ∨
    (p.kind = 0 ∧ q.kind = 0 ∧ p.name = q.name ∧ q.pos + q.old.length < p.pos ∧ a = q ∧ b = { p with pos := p.pos + ((q.new.length : Int) - q.old.length) }) ∨
    (p.kind = 0 ∧ q.kind = 0 ∧ p.name ≠ q.name ∧ a = q ∧ b = p) ∨
    (p.kind = 0 ∧ q.kind = 3 ∧ p.name = q.name ∧ a = q ∧ b = { p with name := q.to }) ∨
    (p.kind = 0 ∧ q.kind = 3 ∧ p.name ≠ q.name ∧ p.name ≠ q.to ∧ a = q ∧ b = p) ∨
    (p.kind = 3 ∧ q.kind = 0 ∧ p.to = q.name ∧ a = { q with name := p.name } ∧ b = p) ∨
    (p.kind = 3 ∧ q.kind = 0 ∧ p.to ≠ q.name ∧ p.name ≠ q.name ∧ a = q ∧ b = p) ∨
    (¬ (p.kind = 0 ∧ q.kind = 0) ∧ ¬ (p.kind = 0 ∧ q.kind = 3) ∧ ¬ (p.kind = 3 ∧ q.kind = 0) ∧ p.meets q = false ∧ a = q ∧ b = p) := by
  unfold swapped hunks at h
  by_cases h1 : p.kind = 0 ∧ q.kind = 0
  · rw [if_pos h1] at h
    by_cases hn : p.name = q.name
    · rw [if_pos hn] at h
      by_cases c1 : p.pos + p.new.length < q.pos
      · rw [if_pos c1] at h
        simp only [Prod.mk.injEq] at h
        exact .inl ⟨h1.1, h1.2, hn, c1, h.1.symm, h.2.1.symm⟩
      · rw [if_neg c1] at h
        by_cases c2 : q.pos + q.old.length < p.pos
        · rw [if_pos c2] at h
          simp only [Prod.mk.injEq] at h
          exact .inr (.inl ⟨h1.1, h1.2, hn, c2, h.1.symm, h.2.1.symm⟩)
        · rw [if_neg c2] at h
          simp at h
    · rw [if_neg hn] at h
      simp only [Prod.mk.injEq] at h
      exact .inr (.inr (.inl ⟨h1.1, h1.2, hn, h.1.symm, h.2.1.symm⟩))
  · rw [if_neg h1] at h
    by_cases h2 : p.kind = 0 ∧ q.kind = 3
    · rw [if_pos h2] at h
      by_cases hn : p.name = q.name
      · rw [if_pos hn] at h
        simp only [Prod.mk.injEq] at h
        exact .inr (.inr (.inr (.inl ⟨h2.1, h2.2, hn, h.1.symm, h.2.1.symm⟩)))
      · rw [if_neg hn] at h
        simp only [Prod.mk.injEq, Bool.not_eq_true', decide_eq_false_iff_not] at h
        exact .inr (.inr (.inr (.inr (.inl ⟨h2.1, h2.2, hn, h.2.2, h.1.symm, h.2.1.symm⟩))))
    · rw [if_neg h2] at h
      by_cases h3 : p.kind = 3 ∧ q.kind = 0
      · rw [if_pos h3] at h
        by_cases hn : p.to = q.name
        · rw [if_pos hn] at h
          simp only [Prod.mk.injEq] at h
          exact .inr (.inr (.inr (.inr (.inr (.inl ⟨h3.1, h3.2, hn, h.1.symm, h.2.1.symm⟩)))))
        · rw [if_neg hn] at h
          simp only [Prod.mk.injEq, Bool.not_eq_true', decide_eq_false_iff_not] at h
          exact .inr (.inr (.inr (.inr (.inr (.inr (.inl ⟨h3.1, h3.2, hn, h.2.2, h.1.symm, h.2.1.symm⟩))))))
      · rw [if_neg h3] at h
        simp only [Prod.mk.injEq, Bool.not_eq_true'] at h
        exact .inr (.inr (.inr (.inr (.inr (.inr (.inr ⟨h1, h2, h3, h.2.2, h.1.symm, h.2.1.symm⟩))))))
theorem sw00a {p q : Prim} (h0 : p.kind = 0) (h1 : q.kind = 0) (hn : p.name = q.name) (h : p.pos + p.new.length < q.pos) : swapped p q = ({ q with pos := q.pos - ((p.new.length : Int) - p.old.length) }, p, true) := by
  rw [swapped, if_pos ⟨h0, h1⟩, if_pos hn, hunks, if_pos h]
theorem sw00b {p q : Prim} (h0 : p.kind = 0) (h1 : q.kind = 0) (hn : p.name = q.name) (h' : ¬ p.pos + p.new.length < q.pos) (h : q.pos + q.old.length < p.pos) : swapped p q = (q, { p with pos := p.pos + ((q.new.length : Int) - q.old.length) }, true) := by
  rw [swapped, if_pos ⟨h0, h1⟩, if_pos hn, hunks, if_neg h', if_pos h]
theorem sw00n {p q : Prim} (h0 : p.kind = 0) (h1 : q.kind = 0) (hn : p.name ≠ q.name) : swapped p q = (q, p, true) := by
  rw [swapped, if_pos ⟨h0, h1⟩, if_neg hn]
theorem sw03 {p q : Prim} (h0 : p.kind = 0) (h1 : q.kind = 3) (hn : p.name = q.name) : swapped p q = (q, { p with name := q.to }, true) := by
  rw [swapped, if_neg (by omega), if_pos ⟨h0, h1⟩, if_pos hn]
theorem sw03n {p q : Prim} (h0 : p.kind = 0) (h1 : q.kind = 3) (hn : p.name ≠ q.name) (ht : p.name ≠ q.to) : swapped p q = (q, p, true) := by
  rw [swapped, if_neg (by omega), if_pos ⟨h0, h1⟩, if_neg hn]; simp [ht]
theorem sw30 {p q : Prim} (h0 : p.kind = 3) (h1 : q.kind = 0) (hn : p.to = q.name) : swapped p q = ({ q with name := p.name }, p, true) := by
  rw [swapped, if_neg (by omega), if_neg (by omega), if_pos ⟨h0, h1⟩, if_pos hn]
theorem sw30n {p q : Prim} (h0 : p.kind = 3) (h1 : q.kind = 0) (hn : p.to ≠ q.name) (ht : p.name ≠ q.name) : swapped p q = (q, p, true) := by
  rw [swapped, if_neg (by omega), if_neg (by omega), if_pos ⟨h0, h1⟩, if_neg hn]; simp [ht]
theorem swel {p q : Prim} (h1 : ¬ (p.kind = 0 ∧ q.kind = 0)) (h2 : ¬ (p.kind = 0 ∧ q.kind = 3)) (h3 : ¬ (p.kind = 3 ∧ q.kind = 0)) (h : p.meets q = false) : swapped p q = (q, p, true) := by
  rw [swapped, if_neg h1, if_neg h2, if_neg h3, h]; rfl
theorem swapped_back {p q a b : Prim} (h : swapped p q = (a, b, true)) : swapped a b = (p, q, true) := by
  rcases swapped_cases h with ⟨h0, h1, hn, hc, rfl, rfl⟩ | ⟨h0, h1, hn, hc, rfl, rfl⟩ | ⟨h0, h1, hn, rfl, rfl⟩ | ⟨h0, h1, hn, rfl, rfl⟩ | ⟨h0, h1, hn, ht, rfl, rfl⟩ | ⟨h0, h1, hn, rfl, rfl⟩ | ⟨h0, h1, hn, ht, rfl, rfl⟩ | ⟨h1, h2, h3, hm, rfl, rfl⟩
  · refine Eq.trans (sw00b h1 h0 hn.symm (by dsimp only; omega) (by dsimp only; omega)) ?_
    simp only [Prod.mk.injEq, true_and, and_true]
    cases q; simp
  · refine Eq.trans (sw00a h1 h0 hn.symm (by dsimp only; omega)) ?_
    simp only [Prod.mk.injEq, true_and, and_true]
    cases p; simp
  · exact sw00n h1 h0 (Ne.symm hn)
  · refine Eq.trans (sw30 h1 h0 rfl) ?_
    simp only [Prod.mk.injEq, true_and, and_true]
    cases p; simp_all
  · exact sw30n h1 h0 (Ne.symm ht) (Ne.symm hn)
  · refine Eq.trans (sw03 h1 h0 rfl) ?_
    simp only [Prod.mk.injEq, true_and, and_true]
    cases q; simp_all
  · exact sw03n h1 h0 (Ne.symm ht) (Ne.symm hn)
  · exact swel (fun e => h1 ⟨e.2, e.1⟩) (fun e => h3 ⟨e.2, e.1⟩) (fun e => h2 ⟨e.2, e.1⟩) (by rw [meets_comm]; exact hm)
theorem swap_back {p q a b : Prim} (h : swap p q = (a, b, true)) : swap a b = (p, q, true) := by
  obtain ⟨h1, h2, h3, h4, h5⟩ := swap_true h
  exact swap_mk (swapped_back h1) h4 h5 h2 h3
theorem flip0 {p : Prim} (h : p.kind = 0) : p.flip = { p with old := p.new, new := p.old } := by rw [Prim.flip, if_pos h]
theorem flip3 {p : Prim} (h : p.kind = 3) : p.flip = { p with name := p.to, to := p.name } := by rw [Prim.flip, if_neg (by omega), if_neg (by omega), if_pos h]
theorem swapped_square {p q a b : Prim} (h : swapped p q = (a, b, true)) : swapped p.flip a = (q, b.flip, true) := by
  rcases swapped_cases h with ⟨h0, h1, hn, hc, ha, hb⟩ | ⟨h0, h1, hn, hc, ha, hb⟩ | ⟨h0, h1, hn, ha, hb⟩ | ⟨h0, h1, hn, ha, hb⟩ | ⟨h0, h1, hn, ht, ha, hb⟩ | ⟨h0, h1, hn, ha, hb⟩ | ⟨h0, h1, hn, ht, ha, hb⟩ | ⟨h1, h2, h3, hm, ha, hb⟩
  all_goals subst ha; subst hb; clear h
  · rw [flip0 h0]
    refine Eq.trans (sw00a h0 h1 hn (by dsimp only; omega)) ?_
    first | rfl | (simp only [Prod.mk.injEq, true_and, and_true]; cases q; simp; omega) | (simp only [Prod.mk.injEq, true_and, and_true, Prim.flip, h0, h1, if_true]; simp; omega) | (simp [Prim.flip, h0, h1]; done) | (simp [Prim.flip, h0, h1]; omega) | (simp_all [Prim.flip]; done) | (simp_all [Prim.flip]; omega)
  · rw [flip0 h0]
    refine Eq.trans (sw00b h0 h1 hn (by dsimp only; omega) (by dsimp only; omega)) ?_
    first | rfl | (simp only [Prod.mk.injEq, true_and, and_true]; cases q; simp; omega) | (simp only [Prod.mk.injEq, true_and, and_true, Prim.flip, h0, h1, if_true]; simp; omega) | (simp [Prim.flip, h0, h1]; done) | (simp [Prim.flip, h0, h1]; omega) | (simp_all [Prim.flip]; done) | (simp_all [Prim.flip]; omega)
  · rw [flip0 h0]
    refine Eq.trans (sw00n h0 h1 hn) ?_
    first | rfl | (simp only [Prod.mk.injEq, true_and, and_true]; cases q; simp; omega) | (simp only [Prod.mk.injEq, true_and, and_true, Prim.flip, h0, h1, if_true]; simp; omega) | (simp [Prim.flip, h0, h1]; done) | (simp [Prim.flip, h0, h1]; omega) | (simp_all [Prim.flip]; done) | (simp_all [Prim.flip]; omega)
  · rw [flip0 h0]
    refine Eq.trans (sw03 h0 h1 hn) ?_
    first | rfl | (simp only [Prod.mk.injEq, true_and, and_true]; cases q; simp; omega) | (simp only [Prod.mk.injEq, true_and, and_true, Prim.flip, h0, h1, if_true]; simp; omega) | (simp [Prim.flip, h0, h1]; done) | (simp [Prim.flip, h0, h1]; omega) | (simp_all [Prim.flip]; done) | (simp_all [Prim.flip]; omega)
  · rw [flip0 h0]
    refine Eq.trans (sw03n h0 h1 hn ht) ?_
    first | rfl | (simp only [Prod.mk.injEq, true_and, and_true]; cases q; simp; omega) | (simp only [Prod.mk.injEq, true_and, and_true, Prim.flip, h0, h1, if_true]; simp; omega) | (simp [Prim.flip, h0, h1]; done) | (simp [Prim.flip, h0, h1]; omega) | (simp_all [Prim.flip]; done) | (simp_all [Prim.flip]; omega)
  · rw [flip3 h0]
    refine Eq.trans (sw30 h0 h1 rfl) ?_
    first | rfl | (simp only [Prod.mk.injEq, true_and, and_true]; cases q; simp; omega) | (simp only [Prod.mk.injEq, true_and, and_true, Prim.flip, h0, h1, if_true]; simp; omega) | (simp [Prim.flip, h0, h1]; done) | (simp [Prim.flip, h0, h1]; omega) | (simp_all [Prim.flip]; done) | (simp_all [Prim.flip]; omega)
  · rw [flip3 h0]
    refine Eq.trans (sw30n h0 h1 ht hn) ?_
    first | rfl | (simp only [Prod.mk.injEq, true_and, and_true]; cases q; simp; omega) | (simp only [Prod.mk.injEq, true_and, and_true, Prim.flip, h0, h1, if_true]; simp; omega) | (simp [Prim.flip, h0, h1]; done) | (simp [Prim.flip, h0, h1]; omega) | (simp_all [Prim.flip]; done) | (simp_all [Prim.flip]; omega)
  · exact swel (fun e => h1 ⟨(flip_kind _).1.1 e.1, e.2⟩) (fun e => h2 ⟨(flip_kind _).1.1 e.1, e.2⟩) (fun e => h3 ⟨(flip_kind _).2.1 e.1, e.2⟩) (by rw [meets_flip]; exact hm)
theorem swap_square {p q a b : Prim} (h : swap p q = (a, b, true)) : swap p.flip a = (q, b.flip, true) := by
  obtain ⟨h1, h2, h3, h4, h5⟩ := swap_true h
  exact swap_mk (swapped_square h1) (by rw [flip_right]; exact h2) h4 h3 (by rw [flip_right]; exact h5)
theorem swapped_inv {p q a b : Prim} (h : swapped p q = (a, b, true)) : swapped q.flip p.flip = (b.flip, a.flip, true) := by
  rcases swapped_cases h with ⟨h0, h1, hn, hc, ha, hb⟩ | ⟨h0, h1, hn, hc, ha, hb⟩ | ⟨h0, h1, hn, ha, hb⟩ | ⟨h0, h1, hn, ha, hb⟩ | ⟨h0, h1, hn, ht, ha, hb⟩ | ⟨h0, h1, hn, ha, hb⟩ | ⟨h0, h1, hn, ht, ha, hb⟩ | ⟨h1, h2, h3, hm, ha, hb⟩
  all_goals subst ha; subst hb; clear h
  · rw [flip0 h0, flip0 h1]
    refine Eq.trans (sw00b h1 h0 hn.symm (by dsimp only; omega) (by dsimp only; omega)) ?_
    first | rfl | (simp only [Prod.mk.injEq, true_and, and_true]; cases q; simp; omega) | (simp only [Prod.mk.injEq, true_and, and_true, Prim.flip, h0, h1, if_true]; simp; omega) | (simp [Prim.flip, h0, h1]; done) | (simp [Prim.flip, h0, h1]; omega) | (simp_all [Prim.flip]; done) | (simp_all [Prim.flip]; omega)
  · rw [flip0 h0, flip0 h1]
    refine Eq.trans (sw00a h1 h0 hn.symm (by dsimp only; omega)) ?_
    first | rfl | (simp only [Prod.mk.injEq, true_and, and_true]; cases q; simp; omega) | (simp only [Prod.mk.injEq, true_and, and_true, Prim.flip, h0, h1, if_true]; simp; omega) | (simp [Prim.flip, h0, h1]; done) | (simp [Prim.flip, h0, h1]; omega) | (simp_all [Prim.flip]; done) | (simp_all [Prim.flip]; omega)
  · rw [flip0 h0, flip0 h1]
    refine Eq.trans (sw00n h1 h0 (Ne.symm hn)) ?_
    first | rfl | (simp only [Prod.mk.injEq, true_and, and_true]; cases q; simp; omega) | (simp only [Prod.mk.injEq, true_and, and_true, Prim.flip, h0, h1, if_true]; simp; omega) | (simp [Prim.flip, h0, h1]; done) | (simp [Prim.flip, h0, h1]; omega) | (simp_all [Prim.flip]; done) | (simp_all [Prim.flip]; omega)
  · rw [flip0 h0, flip3 h1]
    refine Eq.trans (sw30 h1 h0 hn.symm) ?_
    first | rfl | (simp only [Prod.mk.injEq, true_and, and_true]; cases q; simp; omega) | (simp only [Prod.mk.injEq, true_and, and_true, Prim.flip, h0, h1, if_true]; simp; omega) | (simp [Prim.flip, h0, h1]; done) | (simp [Prim.flip, h0, h1]; omega) | (simp_all [Prim.flip]; done) | (simp_all [Prim.flip]; omega)
  · rw [flip0 h0, flip3 h1]
    refine Eq.trans (sw30n h1 h0 (Ne.symm hn) (Ne.symm ht)) ?_
    first | rfl | (simp only [Prod.mk.injEq, true_and, and_true]; cases q; simp; omega) | (simp only [Prod.mk.injEq, true_and, and_true, Prim.flip, h0, h1, if_true]; simp; omega) | (simp [Prim.flip, h0, h1]; done) | (simp [Prim.flip, h0, h1]; omega) | (simp_all [Prim.flip]; done) | (simp_all [Prim.flip]; omega)
  · rw [flip3 h0, flip0 h1]
    refine Eq.trans (sw03 h1 h0 hn.symm) ?_
    first | rfl | (simp only [Prod.mk.injEq, true_and, and_true]; cases q; simp; omega) | (simp only [Prod.mk.injEq, true_and, and_true, Prim.flip, h0, h1, if_true]; simp; omega) | (simp [Prim.flip, h0, h1]; done) | (simp [Prim.flip, h0, h1]; omega) | (simp_all [Prim.flip]; done) | (simp_all [Prim.flip]; omega)
  · rw [flip3 h0, flip0 h1]
    refine Eq.trans (sw03n h1 h0 (Ne.symm hn) (Ne.symm ht)) ?_
    first | rfl | (simp only [Prod.mk.injEq, true_and, and_true]; cases q; simp; omega) | (simp only [Prod.mk.injEq, true_and, and_true, Prim.flip, h0, h1, if_true]; simp; omega) | (simp [Prim.flip, h0, h1]; done) | (simp [Prim.flip, h0, h1]; omega) | (simp_all [Prim.flip]; done) | (simp_all [Prim.flip]; omega)
  · exact swel (fun e => h1 ⟨(flip_kind _).1.1 e.2, (flip_kind _).1.1 e.1⟩) (fun e => h3 ⟨(flip_kind _).2.1 e.2, (flip_kind _).1.1 e.1⟩) (fun e => h2 ⟨(flip_kind _).1.1 e.2, (flip_kind _).2.1 e.1⟩) (by rw [meets_flip, meets_comm, meets_flip]; exact hm)
theorem swap_inv {p q a b : Prim} (h : swap p q = (a, b, true)) : swap q.flip p.flip = (b.flip, a.flip, true) := by
  obtain ⟨h1, h2, h3, h4, h5⟩ := swap_true h
  exact swap_mk (swapped_inv h1) (by rw [flip_right]; exact h3) (by rw [flip_right]; exact h2) (by rw [flip_right]; exact h5) (by rw [flip_right]; exact h4)
theorem swap_keeps {p q a b : Prim} (h : swap p q = (a, b, true)) : (a.kind = q.kind ∧ a.old.length = q.old.length ∧ a.new.length = q.new.length ∧ (a.kind = 0 ∨ a = q)) ∧ (b.kind = p.kind ∧ b.old.length = p.old.length ∧ b.new.length = p.new.length ∧ (b.kind = 0 ∨ b = p)) := by
  obtain ⟨h1, h2, h3, h4, h5⟩ := swap_true h
  rcases swapped_cases h1 with ⟨h0, h1, hn, hc, rfl, rfl⟩ | ⟨h0, h1, hn, hc, rfl, rfl⟩ | ⟨h0, h1, hn, rfl, rfl⟩ | ⟨h0, h1, hn, rfl, rfl⟩ | ⟨h0, h1, hn, ht, rfl, rfl⟩ | ⟨h0, h1, hn, rfl, rfl⟩ | ⟨h0, h1, hn, ht, rfl, rfl⟩ | ⟨h1, h2, h3, hm, rfl, rfl⟩ <;> simp_all
end Go.Sx
