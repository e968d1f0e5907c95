/- OWN WORK: a part of the proof of a law of the seat YtppjcjlijmldiaaGreatDoor: the rules by which the code is walked, what the functions compute, and the walk through them. -/
import Derived.Test.YtppjcjlijmldiaaGreatDoorXGD
import Derived.Test.YtppjcjlijmldiaaGreatDoorXGB
import Derived.Test.YtppjcjlijmldiaaGreatDoorXGA
import Derived.Test.YtppjcjlijmldiaaGreatDoorProg
import Derived.Sort.OwnSortedInts
import Derived.Test.YtppjcjlijmldiaaGreatDoorXGC
section
set_option linter.unusedVariables false
set_option linter.unusedSimpArgs false
namespace Go.Proofs.YtppjcjlijmldiaaGreatDoor.X
open Go Go.RowKit Go.Proofs Go.Sx
/-! Patches in another order: neighbours are swapped. -/
inductive SwP : List Patch → List Patch → Prop
  | refl {a} : SwP a a
  | step {a x p q s t y} : SwP a (x ++ p :: q :: y) → (s, t, true) = pswap p q → SwP a (x ++ s :: t :: y)
theorem SwP.trans {a b c : List Patch} (h : SwP a b) (k : SwP b c) : SwP a c := by
  induction k with
  | refl => exact h
  | step _ e ih => exact .step ih e
theorem SwP.ctx {a b : List Patch} (h : SwP a b) (u v : List Patch) : SwP (u ++ a ++ v) (u ++ b ++ v) := by
  induction h with
  | refl => exact .refl
  | @step x p q s t y _ e ih =>
    have e1 : u ++ (x ++ p :: q :: y) ++ v = (u ++ x) ++ p :: q :: (y ++ v) := by simp only [List.append_assoc, List.cons_append]
    have e2 : u ++ (x ++ s :: t :: y) ++ v = (u ++ x) ++ s :: t :: (y ++ v) := by simp only [List.append_assoc, List.cons_append]
    rw [e1] at ih
    rw [e2]
    exact .step ih e
theorem SwP.one {p q s t : Patch} (e : (s, t, true) = pswap p q) : SwP [p, q] [s, t] := SwP.step (x := []) (y := []) .refl e
theorem SwP.swr {a b : List Patch} (h : SwP a b) : SwR (pl a) (pl b) := by
  induction h with
  | refl => exact .refl
  | @step x p q s t y _ e ih =>
    refine ih.trans ?_
    have := (pswap_swr e).ctx (pl x) (pl y)
    rw [pl_app, pl_app, pl_cons, pl_cons, pl_cons, pl_cons]
    simpa only [List.append_assoc] using this
theorem pswap_ids' {p q s t : Patch} (e : (s, t, true) = pswap p q) : s.id = q.id ∧ t.id = p.id ∧ s.deps = q.deps ∧ t.deps = p.deps ∧ s.note = q.note ∧ t.note = p.note ∧ s.l.length = q.l.length ∧ t.l.length = p.l.length := by
  obtain ⟨f, g, _, h2, rfl, rfl⟩ := pswap_true e
  have h3 := swT_len h2
  exact ⟨rfl, rfl, rfl, rfl, rfl, rfl, h3.1, h3.2⟩
theorem SwP.len {a b : List Patch} (h : SwP a b) : b.length = a.length := by
  induction h with
  | refl => rfl
  | step _ e ih => simp only [List.length_append, List.length_cons] at ih ⊢; exact ih
theorem SwP.ids {a b : List Patch} (h : SwP a b) : (idsP b).Perm (idsP a) := by
  induction h with
  | refl => exact .refl _
  | @step x p q s t y _ e ih =>
    obtain ⟨h1, h2, _⟩ := pswap_ids' e
    refine List.Perm.trans ?_ ih
    unfold idsP
    simp only [List.map_append, List.map_cons, h1, h2]
    exact List.Perm.append_left _ (List.Perm.swap _ _ _)
theorem SwP.fit {a b : List Patch} (h : SwP a b) (hf : ∀ p ∈ a, p.fit) : ∀ p ∈ b, p.fit := by
  induction h with
  | refl => exact hf
  | @step x p q s t y _ e ih =>
    have hpq := pswap_fit (ih p (by simp)) (ih q (by simp))
    rw [← e] at hpq
    intro r hr
    simp only [List.mem_append, List.mem_cons] at hr
    rcases hr with hr | rfl | rfl | hr
    · exact ih r (by simp [hr])
    · exact hpq.1
    · exact hpq.2
    · exact ih r (by simp [hr])
theorem SwP.ok {a b : List Patch} (h : SwP a b) {T : List File} (k : LogOk a T) : LogOk b T :=
  ⟨h.swr.runs Sor.nil k.runs, h.ids.nodup_iff.2 k.nodup, h.fit k.fit⟩
/-! what stands -/
theorem pswap_right {p q s t : Patch} (e : (s, t, true) = pswap p q) : s.right = true ∧ t.right = true ∧ p.right = true ∧ q.right = true ∧ p.id ≠ q.id ∧ p.id ∉ q.deps ∧ q.id ∉ p.deps := by
  obtain ⟨f, g, h1, h2, rfl, rfl⟩ := pswap_true e
  simp only [pmay, Bool.and_eq_true, Bool.not_eq_true', decide_eq_false_iff_not] at h1
  obtain ⟨⟨⟨⟨hp, hq⟩, hn⟩, h3⟩, h4⟩ := h1
  have hg := grid_right (swapL_grid.1 (swT_true.1 h2)) (right_parts hp).2 (right_parts hq).2
  have hl := swT_len h2
  refine ⟨right_with hq hl.1 hg.1, right_with hp hl.2 hg.2, hp, hq, hn, fun h => ?_, fun h => ?_⟩
  · have := List.any_eq_false.1 h3 _ h; simp at this
  · have := List.any_eq_false.1 h4 _ h; simp at this
structure LogD (l : List Patch) : Prop where
  right : ∀ p ∈ l, p.right = true
  deps : ∀ (A : List Patch) (p : Patch) (B : List Patch), l = A ++ p :: B → ∀ d ∈ p.deps, d ∈ idsP A
theorem LogD.nil : LogD [] := ⟨(fun p h => by cases h), (fun A p B h => by simp at h)⟩
theorem idsP_app (a b : List Patch) : idsP (a ++ b) = idsP a ++ idsP b := by unfold idsP; rw [List.map_append]
theorem idsP_cons (p : Patch) (b : List Patch) : idsP (p :: b) = p.id :: idsP b := rfl
theorem idsP_len (a : List Patch) : (idsP a).length = a.length := by unfold idsP; rw [List.length_map]
theorem split_cases {α : Type} {x y A B : List α} {s t p : α} (h : x ++ s :: t :: y = A ++ p :: B) :
    (∃ C, x = A ++ p :: C) ∨ (A = x ∧ p = s) ∨ (A = x ++ [s] ∧ p = t) ∨ ∃ C, A = x ++ s :: t :: C ∧ y = C ++ p :: B := by
  rcases List.append_eq_append_iff.1 h with ⟨C, h1, h2⟩ | ⟨C, h1, h2⟩
  · cases C with
    | nil =>
      rw [List.nil_append] at h2
      injection h2 with h3 h4
      rw [List.append_nil] at h1
      exact .inr (.inl ⟨h1, h3.symm⟩)
    | cons c C =>
      rw [List.cons_append] at h2
      injection h2 with h3 h4
      subst h3
      cases C with
      | nil =>
        rw [List.nil_append] at h4
        injection h4 with h5 h6
        exact .inr (.inr (.inl ⟨h1, h5.symm⟩))
      | cons c C =>
        rw [List.cons_append] at h4
        injection h4 with h5 h6
        subst h5
        exact .inr (.inr (.inr ⟨C, h1, h6⟩))
  · cases C with
    | nil =>
      rw [List.nil_append] at h2
      injection h2 with h3 h4
      rw [List.append_nil] at h1
      exact .inr (.inl ⟨h1.symm, h3⟩)
    | cons c C =>
      rw [List.cons_append] at h2
      injection h2 with h3 h4
      subst h3
      exact .inl ⟨C, h1⟩
theorem LogD.step {x y : List Patch} {p q s t : Patch} (h : LogD (x ++ p :: q :: y)) (e : (s, t, true) = pswap p q) : LogD (x ++ s :: t :: y) := by
  obtain ⟨h1, h2, _, _, h5, h6, h7⟩ := pswap_right e
  obtain ⟨i1, i2, d1, d2, _⟩ := pswap_ids' e
  refine ⟨fun r hr => ?_, fun A r B hr d hd => ?_⟩
  · simp only [List.mem_append, List.mem_cons] at hr
    rcases hr with hr | rfl | rfl | hr
    · exact h.right r (by simp [hr])
    · exact h1
    · exact h2
    · exact h.right r (by simp [hr])
  · rcases split_cases hr with ⟨C, h8⟩ | ⟨rfl, rfl⟩ | ⟨rfl, rfl⟩ | ⟨C, rfl, h8⟩
    · exact h.deps A r (C ++ p :: q :: y) (by rw [h8]; simp) d hd
    · rw [d1] at hd
      have := h.deps (A ++ [p]) q y (by simp) d hd
      rw [idsP_app] at this
      rcases List.mem_append.1 this with h9 | h9
      · exact h9
      · rw [show idsP [p] = [p.id] from rfl, List.mem_singleton] at h9
        exact absurd (h9 ▸ hd) h6
    · rw [d2] at hd
      rw [idsP_app]
      exact List.mem_append_left _ (h.deps x p (q :: y) rfl d hd)
    · have := h.deps (x ++ p :: q :: C) r B (by rw [h8]; simp) d hd
      simp only [idsP_app, idsP_cons, List.mem_append, List.mem_cons] at this ⊢
      rw [i1, i2]
      rcases this with h | h | h | h
      · exact .inl h
      · exact .inr (.inr (.inl h))
      · exact .inr (.inl h)
      · exact .inr (.inr (.inr h))
theorem SwP.logD {a b : List Patch} (h : SwP a b) (k : LogD a) : LogD b := by
  induction h with
  | refl => exact k
  | step _ e ih => exact ih.step e
theorem LogD.add {l : List Patch} {q : Patch} (h : LogD l) (hr : q.right = true) (hd : ∀ d ∈ q.deps, d ∈ idsP l) : LogD (l ++ [q]) := by
  refine ⟨fun p hp => ?_, fun A p B e d hd' => ?_⟩
  · rcases List.mem_append.1 hp with hp | hp
    · exact h.right p hp
    · rw [List.mem_singleton.1 hp]; exact hr
  · rcases List.append_eq_append_iff.1 e with ⟨C, h1, h2⟩ | ⟨C, h1, h2⟩
    · cases C with
      | nil =>
        rw [List.nil_append] at h2; injection h2 with h3 h4
        rw [List.append_nil] at h1
        subst h1 h3
        exact hd d hd'
      | cons c C =>
        rw [List.cons_append] at h2; injection h2 with h3 h4
        simp at h4
    · cases C with
      | nil =>
        rw [List.nil_append] at h2; injection h2 with h3 h4
        rw [List.append_nil] at h1
        subst h1 h3
        exact hd d hd'
      | cons c C =>
        rw [List.cons_append] at h2; injection h2 with h3 h4
        subst h3
        exact h.deps A p C h1 d hd'
theorem LogD.take {l : List Patch} (h : LogD l) (m : List Patch) {n : List Patch} (e : l = m ++ n) : LogD m :=
  ⟨fun p hp => h.right p (by rw [e]; simp [hp]), fun A p B h1 => h.deps A p (B ++ n) (by rw [e, h1]; simp)⟩
/-! the ways in which patches are swapped -/
theorem ppastR_app : ∀ (r s : List Patch) (q : Patch) (rest : List Patch), ppastR (r ++ s) q rest = (ppastR r q rest).bind fun x => ppastR s x.1 x.2
  | [], s, q, rest => rfl
  | x :: r, s, q, rest => by
    simp only [List.cons_append, ppastR]
    split
    · exact ppastR_app r s _ _
    · rfl
theorem ppast_true {l rest : List Patch} {q q' : Patch} : (q', rest, true) = ppast l q ↔ ppastR l.reverse q [] = some (q', rest) := by
  unfold ppast
  constructor
  · intro h
    split at h
    · rename_i r hr
      simp only [Prod.mk.injEq, and_true] at h
      rw [hr, h.1, h.2]
    · simp at h
  · intro h; rw [h]
theorem ppast_nil {q q' : Patch} {rest : List Patch} : (q', rest, true) = ppast [] q ↔ q' = q ∧ rest = [] := by
  rw [ppast_true]
  simp only [List.reverse_nil, ppastR, Option.some.injEq, Prod.mk.injEq]
  exact ⟨fun h => ⟨h.1.symm, h.2.symm⟩, fun h => ⟨h.1.symm, h.2.symm⟩⟩
theorem ppast_cons {a q q' : Patch} {l rest : List Patch} : (q', rest, true) = ppast (a :: l) q ↔ ∃ y R a', (y, R, true) = ppast l q ∧ (q', a', true) = pswap a y ∧ rest = a' :: R := by
  rw [ppast_true, List.reverse_cons, ppastR_app]
  constructor
  · intro h
    cases e : ppastR l.reverse q [] with
    | none => rw [e] at h; cases h
    | some x =>
      rw [e] at h
      simp only [Option.bind_some, ppastR] at h
      split at h
      · rename_i hb
        simp only [Option.some.injEq, Prod.mk.injEq] at h
        refine ⟨x.1, x.2, (pswap a x.1).2.1, ppast_true.2 e, ?_, h.2.symm⟩
        rw [← h.1]; exact pswap_eta _ _ hb
      · cases h
  · rintro ⟨y, R, a', h1, h2, rfl⟩
    rw [ppast_true.1 h1]
    simp only [Option.bind_some, ppastR, ← h2, if_true]
theorem ppast_swp : ∀ {l rest : List Patch} {q q' : Patch}, (q', rest, true) = ppast l q → SwP (l ++ [q]) (q' :: rest)
  | [], rest, q, q', h => by
    obtain ⟨rfl, rfl⟩ := ppast_nil.1 h
    exact .refl
  | a :: l, rest, q, q', h => by
    obtain ⟨y, R, a', h1, h2, rfl⟩ := ppast_cons.1 h
    have h3 := (ppast_swp h1).ctx [a] []
    have h4 := (SwP.one h2).ctx [] R
    simp only [List.append_nil, List.nil_append, List.cons_append] at h3 h4 ⊢
    exact h3.trans h4
theorem ppast_id {l rest : List Patch} {q q' : Patch} (h : (q', rest, true) = ppast l q) : q'.id = q.id ∧ idsP rest = idsP l := by
  induction l generalizing q' rest with
  | nil => obtain ⟨rfl, rfl⟩ := ppast_nil.1 h; exact ⟨rfl, rfl⟩
  | cons a l ih =>
    obtain ⟨y, R, a', h1, h2, rfl⟩ := ppast_cons.1 h
    obtain ⟨h3, h4⟩ := ih h1
    obtain ⟨h5, h6, _⟩ := pswap_ids' h2
    exact ⟨h5.trans h3, by rw [idsP_cons, idsP_cons, h4, h6]⟩
theorem lastF_swp : ∀ {r s : List Patch} {p b : Patch}, lastF p r = some (s, b) → SwP (p :: r) (s ++ [b])
  | [], s, p, b, h => by
    simp only [lastF, Option.some.injEq, Prod.mk.injEq] at h
    obtain ⟨rfl, rfl⟩ := h
    exact .refl
  | x :: r, s, p, b, h => by
    simp only [lastF] at h
    by_cases hc : (pswap p x).2.2 = true
    · rw [if_pos hc] at h
      cases hl : lastF (pswap p x).2.1 r with
      | none => rw [hl] at h; cases h
      | some y =>
        obtain ⟨s', b'⟩ := y
        rw [hl] at h
        simp only [Option.map_some, Option.some.injEq, Prod.mk.injEq] at h
        obtain ⟨rfl, rfl⟩ := h
        have h1 := (SwP.one (pswap_eta p x hc)).ctx [] r
        have h2 := (lastF_swp hl).ctx [(pswap p x).1] []
        simp only [List.append_nil, List.nil_append, List.cons_append] at h1 h2 ⊢
        exact h1.trans h2
    · rw [if_neg hc] at h; cases h
theorem groupF_swp : ∀ (l g r : List Patch) {g' r' : List Patch}, groupF l g r = (g', r') → SwP (r ++ g ++ l) (r' ++ g')
  | [], g, r, g', r', h => by
    simp only [groupF, Prod.mk.injEq] at h
    obtain ⟨rfl, rfl⟩ := h
    rw [List.append_nil]; exact .refl
  | q :: l, g, r, g', r', h => by
    rw [groupF] at h
    split at h
    · rename_i hc
      have ih := groupF_swp l _ _ h
      have h1 : ((ppast g q).1, (ppast g q).2.1, true) = ppast g q := by rw [← hc]
      have h2 := (ppast_swp h1).ctx r l
      simp only [List.append_assoc, List.cons_append, List.nil_append] at h2 ih ⊢
      exact h2.trans ih
    · have ih := groupF_swp l _ _ h
      simp only [List.append_assoc, List.cons_append, List.nil_append] at ih ⊢
      exact ih
theorem group_swp {l g r : List Patch} (h : (g, r) = group l) : SwP l (r ++ g) := by
  cases l with
  | nil =>
    simp only [group, Prod.mk.injEq] at h
    obtain ⟨rfl, rfl⟩ := h
    exact .refl
  | cons p l =>
    have := groupF_swp l [p] [] (show groupF l [p] [] = (g, r) from h.symm)
    simpa using this
/-! an order -/
def bring (R : List Patch) (v : Int) : Option (Patch × List Patch) :=
  if h : 0 ≤ atP R v ∧ (atP R v).toNat < R.length then
    (if (ppast (R.take (atP R v).toNat) (R[(atP R v).toNat]'h.2)).2.2 = true then some ((ppast (R.take (atP R v).toNat) (R[(atP R v).toNat]'h.2)).1, (ppast (R.take (atP R v).toNat) (R[(atP R v).toNat]'h.2)).2.1 ++ R.drop ((atP R v).toNat + 1)) else none)
  else none
def ordR : List Int → List Patch → Option (List Patch)
  | [], R => some R
  | v :: ids, R => match bring R v with
    | some x => (ordR ids x.2).map (x.1 :: ·)
    | none => none
theorem atP_at {A B : List Patch} {p : Patch} (h : p.id ∉ idsP A) : atP (A ++ p :: B) p.id = (A.length : Int) := by
  refine atP_yes (k := A.length) (by simp) ?_ (by simp)
  rw [List.take_left]
  refine List.any_eq_false.2 fun x hx => ?_
  simp only [decide_eq_true_eq]
  intro e
  exact h (e ▸ List.mem_map.2 ⟨x, hx, rfl⟩)
theorem bring_at {A B : List Patch} {p : Patch} (h : p.id ∉ idsP A) : bring (A ++ p :: B) p.id = if (ppast A p).2.2 = true then some ((ppast A p).1, (ppast A p).2.1 ++ B) else none := by
  unfold bring
  have e : (atP (A ++ p :: B) p.id).toNat = A.length := by rw [atP_at h]; rfl
  have e2 : 0 ≤ atP (A ++ p :: B) p.id := by rw [atP_at h]; omega
  rw [dif_pos ⟨e2, by rw [e]; simp⟩]
  simp only [e, List.take_left, List.getElem_append_right (Nat.le_refl _), Nat.sub_self, List.getElem_cons_zero]
  have e3 : (A ++ p :: B).drop (A.length + 1) = B := by rw [List.drop_append]; simp
  rw [e3]
theorem bring_some {R R' : List Patch} {v : Int} {q : Patch} (h : bring R v = some (q, R')) : ∃ A p B A', R = A ++ p :: B ∧ p.id = v ∧ v ∉ idsP A ∧ (q, A', true) = ppast A p ∧ R' = A' ++ B := by
  rcases atP_cases R v with ⟨h1, _⟩ | ⟨k, hk, h1, h2, h3⟩
  · unfold bring at h
    rw [dif_neg (by omega)] at h; cases h
  · have e : R = R.take k ++ R[k] :: R.drop (k + 1) := by rw [← List.drop_eq_getElem_cons hk, List.take_append_drop]
    have hn : R[k].id ∉ idsP (R.take k) := by
      intro h4
      obtain ⟨x, hx, h5⟩ := List.mem_map.1 h4
      obtain ⟨j, hj, rfl⟩ := List.mem_take_iff_getElem.1 hx
      exact h3 j (by omega) (h5.trans h2)
    rw [e, ← h2, bring_at hn] at h
    split at h
    · rename_i hc
      simp only [Option.some.injEq, Prod.mk.injEq] at h
      refine ⟨_, _, _, (ppast (R.take k) R[k]).2.1, e, h2, h2 ▸ hn, ?_, h.2.symm⟩
      rw [← h.1, ← hc]
    · cases h
theorem ordR_cons {v : Int} {ids : List Int} {R m : List Patch} : ordR (v :: ids) R = some m ↔ ∃ q R' m', bring R v = some (q, R') ∧ ordR ids R' = some m' ∧ m = q :: m' := by
  simp only [ordR]
  constructor
  · intro h
    cases e : bring R v with
    | none => rw [e] at h; cases h
    | some x =>
      rw [e] at h
      simp only at h
      cases e2 : ordR ids x.2 with
      | none => rw [e2] at h; cases h
      | some m' => rw [e2] at h; simp only [Option.map_some, Option.some.injEq] at h; exact ⟨x.1, x.2, m', rfl, e2, h.symm⟩
  · rintro ⟨q, R', m', h1, h2, rfl⟩
    rw [h1]
    simp only [h2, Option.map_some]
theorem ordR_swp : ∀ {ids : List Int} {R m : List Patch}, ordR ids R = some m → SwP R m
  | [], R, m, h => by simp only [ordR, Option.some.injEq] at h; exact h ▸ .refl
  | v :: ids, R, m, h => by
    obtain ⟨q, R', m', h1, h2, rfl⟩ := ordR_cons.1 h
    obtain ⟨A, p, B, A', rfl, _, _, h3, rfl⟩ := bring_some h1
    have h4 := (ppast_swp h3).ctx [] B
    have h5 := (ordR_swp h2).ctx [q] []
    simp only [List.append_assoc, List.append_nil, List.nil_append, List.cons_append] at h4 h5 ⊢
    exact h4.trans h5
theorem ordR_ids : ∀ {ids : List Int} {R m : List Patch}, ordR ids R = some m → (idsP m).take ids.length = ids
  | [], R, m, h => by simp
  | v :: ids, R, m, h => by
    obtain ⟨q, R', m', h1, h2, rfl⟩ := ordR_cons.1 h
    obtain ⟨A, p, B, A', rfl, h3, _, h4, rfl⟩ := bring_some h1
    rw [idsP_cons, List.length_cons, List.take_succ_cons, ordR_ids h2, (ppast_id h4).1, h3]
theorem bring_head (p : Patch) (B : List Patch) : bring (p :: B) p.id = some (p, B) := by
  have := bring_at (A := []) (B := B) (p := p) (by simp [idsP])
  rw [List.nil_append] at this
  rw [this]; rfl
theorem ordR_pre : ∀ (F : List Patch) {ids : List Int} {R m : List Patch}, ordR ids R = some m → ordR (idsP F ++ ids) (F ++ R) = some (F ++ m)
  | [], ids, R, m, h => h
  | p :: F, ids, R, m, h => ordR_cons.2 ⟨p, F ++ R, F ++ m, bring_head p _, ordR_pre F h, rfl⟩
theorem ordR_refl (l : List Patch) : ordR (idsP l) l = some l := by
  have := ordR_pre l (ids := []) (R := []) (m := []) rfl
  simpa using this
theorem ordR_ins : ∀ {A A' B m' : List Patch} {p p' : Patch}, (p', A', true) = ppast A p → ordR (idsP (A' ++ B)) m' = some (A' ++ B) → (idsP (A ++ p :: B)).Nodup → ordR (idsP (A ++ p :: B)) (p' :: m') = some (A ++ p :: B)
  | [], A', B, m', p, p', h, k, hn => by
    obtain ⟨rfl, rfl⟩ := ppast_nil.1 h
    exact ordR_cons.2 ⟨p', m', B, bring_head p' _, k, rfl⟩
  | a :: A, A', B, m', p, p', h, k, hn => by
    obtain ⟨y, R, a', h1, h2, rfl⟩ := ppast_cons.1 h
    obtain ⟨q, R', m2, k1, k2, k3⟩ := ordR_cons.1 k
    rw [List.cons_append] at k3
    injection k3 with k4 k5
    subst k4 k5
    obtain ⟨C, c, D, C', rfl, k6, k7, k8, rfl⟩ := bring_some k1
    have h3 := pswap_back h2
    obtain ⟨i1, i2, _⟩ := pswap_ids' h2
    have hp := (ppast_id h).1
    have ha : p'.id ≠ a.id := by
      rw [hp]
      rw [List.cons_append, idsP_cons, List.nodup_cons] at hn
      intro e
      exact hn.1 (by rw [idsP_app, idsP_cons, ← e]; simp)
    have hc : (a, y :: C', true) = ppast (p' :: C) c := ppast_cons.2 ⟨a', C', y, k8, h3, rfl⟩
    have hi : c.id = a.id := Eq.trans k6 i2
    have hb : bring (p' :: (C ++ c :: D)) a.id = some (a, (y :: C') ++ D) := by
      have := bring_at (A := p' :: C) (B := D) (p := c) (by
        rw [idsP_cons, List.mem_cons, not_or, hi]
        refine ⟨fun e => ha e.symm, ?_⟩
        rw [← i2]; exact k7)
      rw [hi] at this
      rw [List.cons_append] at this
      rw [this, ← hc]
      simp
    rw [List.cons_append, idsP_cons]
    refine ordR_cons.2 ⟨a, (y :: C') ++ D, A ++ p :: B, hb, ?_, rfl⟩
    rw [List.cons_append]
    exact ordR_ins h1 k2 (by rw [List.cons_append, idsP_cons, List.nodup_cons] at hn; exact hn.2)
theorem ordR_back : ∀ {ids : List Int} {l m : List Patch}, (idsP l).Nodup → ids.length = l.length → ordR ids l = some m → ordR (idsP l) m = some l
  | [], l, m, hn, hl, h => by
    have : l = [] := List.length_eq_zero_iff.1 hl.symm
    subst this
    simp only [ordR, Option.some.injEq] at h
    subst h; rfl
  | v :: ids, l, m, hn, hl, h => by
    obtain ⟨q, R', m', h1, h2, rfl⟩ := ordR_cons.1 h
    obtain ⟨A, p, B, A', rfl, h3, h4, h5, rfl⟩ := bring_some h1
    have h6 := (ppast_id h5).2
    have hn' : (idsP (A' ++ B)).Nodup := by
      rw [idsP_app, h6, ← idsP_app]
      rw [idsP_app, idsP_cons] at hn
      rw [idsP_app]
      exact hn.sublist (List.Sublist.append_left (List.sublist_cons_self _ _) _)
    have hl' : ids.length = (A' ++ B).length := by
      have e1 := congrArg List.length h6
      rw [idsP_len, idsP_len] at e1
      simp only [List.length_append, List.length_cons] at hl ⊢
      omega
    exact ordR_ins h5 (ordR_back hn' hl' h2) hn
theorem groupF_ord : ∀ (l g r : List Patch) {g' r' : List Patch}, (idsP (g ++ l)).Nodup → groupF l g r = (g', r') → ∃ s, r' = r ++ s ∧ ordR (idsP (s ++ g')) (g ++ l) = some (s ++ g')
  | [], g, r, g', r', hn, h => by
    simp only [groupF, Prod.mk.injEq] at h
    obtain ⟨rfl, rfl⟩ := h
    exact ⟨[], by simp, by rw [List.append_nil, List.nil_append]; exact ordR_refl g⟩
  | q :: l, g, r, g', r', hn, h => by
    rw [groupF] at h
    split at h
    · rename_i hc
      have h1 : ((ppast g q).1, (ppast g q).2.1, true) = ppast g q := by rw [← hc]
      obtain ⟨i1, i2⟩ := ppast_id h1
      have hq : q.id ∉ idsP g := by
        intro hq
        rw [idsP_app, idsP_cons, List.nodup_append] at hn
        exact hn.2.2 _ hq _ (by simp) rfl
      have hn' : (idsP ((ppast g q).2.1 ++ l)).Nodup := by
        rw [idsP_app, i2]
        rw [idsP_app, idsP_cons] at hn
        exact hn.sublist (List.Sublist.append_left (List.sublist_cons_self _ _) _)
      obtain ⟨s, rfl, h2⟩ := groupF_ord l _ _ hn' h
      refine ⟨(ppast g q).1 :: s, by simp, ?_⟩
      rw [List.cons_append, idsP_cons, i1]
      refine ordR_cons.2 ⟨(ppast g q).1, (ppast g q).2.1 ++ l, s ++ g', ?_, h2, rfl⟩
      rw [bring_at hq, if_pos hc]
    · obtain ⟨s, rfl, h2⟩ := groupF_ord l (g ++ [q]) r (by simpa using hn) h
      exact ⟨s, rfl, by simpa using h2⟩
theorem group_ord {l g r : List Patch} (hn : (idsP l).Nodup) (h : (g, r) = group l) : ordR (idsP (r ++ g)) l = some (r ++ g) := by
  cases l with
  | nil =>
    simp only [group, Prod.mk.injEq] at h
    obtain ⟨rfl, rfl⟩ := h
    rfl
  | cons p l =>
    obtain ⟨s, rfl, h2⟩ := groupF_ord l [p] [] (by simpa using hn) (show groupF l [p] [] = (g, r) from h.symm)
    simpa using h2
end Go.Proofs.YtppjcjlijmldiaaGreatDoor.X
end
section
set_option linter.unusedVariables false
set_option linter.unusedSimpArgs false
namespace Go.Proofs.YtppjcjlijmldiaaGreatDoor.X
open Go Go.RowKit Go.Proofs Go.Sx
/-! Order, as it is told: the new row, and an error. -/
def orderP (l : List Patch) (ids : List Int) : List Patch × Int :=
  if ids.isPerm (idsP l) = true then (match ordR ids l with
    | some m => (m, 0)
    | none => (l, 83)) else (l, 1)
theorem orderP_arg {l : List Patch} {ids : List Int} (h : ¬ ids.Perm (idsP l)) : orderP l ids = (l, 1) := by
  unfold orderP; rw [if_neg (by rw [List.isPerm_iff]; exact h)]
theorem orderP_some {l m : List Patch} {ids : List Int} (h : ids.Perm (idsP l)) (e : ordR ids l = some m) : orderP l ids = (m, 0) := by
  unfold orderP; rw [if_pos (by rw [List.isPerm_iff]; exact h), e]
theorem orderP_none {l : List Patch} {ids : List Int} (h : ids.Perm (idsP l)) (e : ordR ids l = none) : orderP l ids = (l, 83) := by
  unfold orderP; rw [if_pos (by rw [List.isPerm_iff]; exact h), e]
theorem orderP_ok {l m : List Patch} {ids : List Int} (h : orderP l ids = (m, 0)) : ids.Perm (idsP l) ∧ ordR ids l = some m := by
  unfold orderP at h
  by_cases hp : ids.isPerm (idsP l) = true
  · rw [if_pos hp] at h
    refine ⟨List.isPerm_iff.1 hp, ?_⟩
    cases e : ordR ids l with
    | none => rw [e] at h; simp at h
    | some x => rw [e] at h; simp only [Prod.mk.injEq, and_true] at h; rw [h]
  · rw [if_neg hp] at h; simp at h
theorem orderP_err (l : List Patch) (ids : List Int) : (orderP l ids).2 = 0 ∨ (orderP l ids).1 = l := by
  unfold orderP
  split
  · cases ordR ids l with
    | none => exact .inr rfl
    | some m => exact .inl rfl
  · exact .inr rfl
theorem orderP_swp (l : List Patch) (ids : List Int) : SwP l (orderP l ids).1 := by
  unfold orderP
  split
  · cases e : ordR ids l with
    | none => exact .refl
    | some m => exact ordR_swp e
  · exact .refl
theorem orderP_ids {l m : List Patch} {ids : List Int} (h : orderP l ids = (m, 0)) : idsP m = ids := by
  obtain ⟨h1, h2⟩ := orderP_ok h
  have h3 := ordR_ids h2
  have h4 := (ordR_swp h2).len
  rw [List.take_of_length_le] at h3
  · exact h3
  · rw [idsP_len, h4, h1.length_eq, idsP_len]; exact Nat.le_refl _
theorem orderP_back {l m : List Patch} {ids : List Int} (hn : (idsP l).Nodup) (h : orderP l ids = (m, 0)) : orderP m (idsP l) = (l, 0) := by
  obtain ⟨h1, h2⟩ := orderP_ok h
  refine orderP_some ?_ (ordR_back hn (by rw [h1.length_eq, idsP_len]) h2)
  rw [orderP_ids h]; exact h1.symm
theorem orderP_refl (l : List Patch) : orderP l (idsP l) = (l, 0) := orderP_some (.refl _) (ordR_refl l)
structure OI (l : List Patch) (ids : List Int) (k : Nat) (m : List Patch) : Prop where
  eq : ordR ids l = (ordR (ids.drop k) (m.drop k)).map (m.take k ++ ·)
  swp : SwP l m
  tk : (idsP m).take k = ids.take k
theorem OI.start (l : List Patch) (ids : List Int) : OI l ids 0 l := ⟨by simp, .refl, by simp⟩
theorem OI.at {l m : List Patch} {ids : List Int} {k : Nat} (h : OI l ids k m) (hp : ids.Perm (idsP l)) (hn : (idsP l).Nodup) (hk : k < ids.length) :
    ∃ j, ∃ hj : j < m.length, k ≤ j ∧ atP m ids[k] = (j : Int) ∧ m[j].id = ids[k] ∧ ids[k] ∉ idsP (m.take j) := by
  have hm : (idsP m).Perm (idsP l) := h.swp.ids
  rcases atP_cases m ids[k] with ⟨_, h2⟩ | ⟨j, hj, h1, h2, h3⟩
  · exact absurd (hm.mem_iff.2 (hp.mem_iff.1 (List.getElem_mem hk))) h2
  · refine ⟨j, hj, ?_, h1, h2, fun h4 => ?_⟩
    · refine Nat.le_of_not_lt fun hlt => ?_
      have hnd : ids.Nodup := hp.nodup_iff.2 hn
      have hj' : j < ids.length := by omega
      have e1 : ((idsP m).take k)[j]? = some m[j].id := by
        rw [List.getElem?_take_of_lt hlt]
        unfold idsP
        rw [List.getElem?_map, List.getElem?_eq_getElem hj]; rfl
      rw [h.tk, List.getElem?_take_of_lt hlt, List.getElem?_eq_getElem hj', h2] at e1
      have e2 : ids[j] = ids[k] := Option.some.inj e1
      have := (List.getElem_inj hnd).1 e2
      omega
    · obtain ⟨x, hx, h5⟩ := List.mem_map.1 h4
      obtain ⟨i, hi, rfl⟩ := List.mem_take_iff_getElem.1 hx
      exact h3 i (by omega) h5
theorem seg_eq {m : List Patch} {k j : Nat} (hkj : k ≤ j) (hj : j < m.length) : m.drop k = (m.drop k).take (j - k) ++ m[j] :: m.drop (j + 1) := by
  have e1 : (m.drop k).drop (j - k) = m[j] :: m.drop (j + 1) := by
    rw [List.drop_drop, show k + (j - k) = j by omega, List.drop_eq_getElem_cons hj]
  rw [← e1, List.take_append_drop]
theorem OI.bring {l m : List Patch} {ids : List Int} {k j : Nat} (h : OI l ids k m) (hk : k < ids.length) (hj : j < m.length) (hkj : k ≤ j) (hid : m[j].id = ids[k]) (hn : ids[k] ∉ idsP (m.take j)) :
    X.bring (m.drop k) ids[k] = if (ppast ((m.drop k).take (j - k)) m[j]).2.2 = true then some ((ppast ((m.drop k).take (j - k)) m[j]).1, (ppast ((m.drop k).take (j - k)) m[j]).2.1 ++ m.drop (j + 1)) else none := by
  conv => lhs; rw [seg_eq hkj hj, ← hid]
  refine bring_at ?_
  rw [hid]
  intro h4
  refine hn ?_
  unfold idsP at *
  obtain ⟨x, hx, h5⟩ := List.mem_map.1 h4
  refine List.mem_map.2 ⟨x, ?_, h5⟩
  obtain ⟨i, hi, rfl⟩ := List.mem_take_iff_getElem.1 hx
  rw [List.getElem_drop]
  exact List.mem_take_iff_getElem.2 ⟨k + i, by omega, rfl⟩
theorem OI.step {l m : List Patch} {ids : List Int} {k j : Nat} {q : Patch} {rest : List Patch} (h : OI l ids k m) (hk : k < ids.length) (hj : j < m.length) (hkj : k ≤ j) (hid : m[j].id = ids[k]) (hn : ids[k] ∉ idsP (m.take j))
    (hp : (q, rest, true) = ppast ((m.drop k).take (j - k)) m[j]) : OI l ids (k + 1) (m.take k ++ q :: (rest ++ m.drop (j + 1))) := by
  have hb := h.bring hk hj hkj hid hn
  rw [← hp, if_pos rfl] at hb
  have hl : (m.take k).length = k := by rw [List.length_take]; omega
  have e1 : (m.take k ++ q :: (rest ++ m.drop (j + 1))).take (k + 1) = m.take k ++ [q] := by
    rw [List.take_append, List.take_of_length_le (by omega), hl]
    simp
  have e2 : (m.take k ++ q :: (rest ++ m.drop (j + 1))).drop (k + 1) = rest ++ m.drop (j + 1) := by
    rw [List.drop_append, List.drop_eq_nil_of_le (by omega), hl]
    simp
  refine ⟨?_, ?_, ?_⟩
  · rw [h.eq, e1, e2, List.drop_eq_getElem_cons hk]
    simp only [ordR, hb]
    cases ordR (ids.drop (k + 1)) (rest ++ m.drop (j + 1)) with
    | none => rfl
    | some z => simp
  · refine h.swp.trans ?_
    have h1 := (ppast_swp hp).ctx (m.take k) (m.drop (j + 1))
    have h2 : m = m.take k ++ ((m.drop k).take (j - k) ++ m[j] :: m.drop (j + 1)) := by rw [← seg_eq hkj hj, List.take_append_drop]
    conv => lhs; rw [h2]
    simpa only [List.append_assoc, List.cons_append, List.nil_append] using h1
  · have e3 : (idsP (m.take k ++ q :: (rest ++ m.drop (j + 1)))).take (k + 1) = idsP (m.take k ++ [q]) := by
      rw [← e1]; unfold idsP; rw [List.map_take]
    rw [e3, idsP_app, List.take_succ_eq_append_getElem hk, ← h.tk]
    have h3 := (ppast_id hp).1
    have e4 : idsP (m.take k) = (idsP m).take k := by unfold idsP; rw [List.map_take]
    rw [e4, show idsP [q] = [q.id] from rfl, h3, hid]
theorem OI.stop {l m : List Patch} {ids : List Int} {k j : Nat} {q : Patch} {rest : List Patch} (h : OI l ids k m) (hk : k < ids.length) (hj : j < m.length) (hkj : k ≤ j) (hid : m[j].id = ids[k]) (hn : ids[k] ∉ idsP (m.take j))
    (hp : (q, rest, false) = ppast ((m.drop k).take (j - k)) m[j]) : ordR ids l = none := by
  have hb := h.bring hk hj hkj hid hn
  rw [← hp, if_neg (by simp)] at hb
  rw [h.eq, List.drop_eq_getElem_cons hk]
  simp only [ordR, hb, Option.map_none]
theorem OI.done {l m : List Patch} {ids : List Int} {k : Nat} (h : OI l ids k m) (hk : ids.length ≤ k) : ordR ids l = some m := by
  rw [h.eq, List.drop_eq_nil_of_le hk]
  simp [ordR]
theorem OI.len {l m : List Patch} {ids : List Int} {k : Nat} (h : OI l ids k m) : m.length = l.length := h.swp.len
theorem perm_of {K T : List Int} (hn : K.Nodup) (hs : ∀ x ∈ K, x ∈ T) (hl : K.length = T.length) : K.Perm T := by
  induction K generalizing T with
  | nil => rw [List.length_eq_zero_iff.1 hl.symm]
  | cons x K ih =>
    rw [List.nodup_cons] at hn
    have hx : x ∈ T := hs x (by simp)
    have h1 := List.perm_cons_erase hx
    have h2 : K.Perm (T.erase x) := by
      refine ih hn.2 (fun y hy => ?_) ?_
      · refine (List.mem_erase_of_ne ?_).2 (hs y (by simp [hy]))
        rintro rfl; exact hn.1 hy
      · rw [List.length_erase_of_mem hx, ← hl]; simp
    exact (h2.cons x).trans h1.symm
theorem at_mem {l : List Patch} {v : Int} : 0 ≤ atP l v ↔ v ∈ idsP l := by
  rcases atP_cases l v with ⟨h1, h2⟩ | ⟨k, hk, h1, h2, _⟩
  · exact ⟨fun h => by omega, fun h => absurd h h2⟩
  · exact ⟨fun _ => List.mem_map.2 ⟨l[k], List.getElem_mem hk, h2⟩, fun _ => by omega⟩
/-! Take -/
def takeP (l : List Patch) (v : Int) : (List Patch × List Patch) × Int :=
  if 0 ≤ atP l v then ((l.take (atP l v).toNat ++ (group (l.drop (atP l v).toNat)).2, (group (l.drop (atP l v).toNat)).1), 0) else ((l, []), 81)
theorem takeP_no {l : List Patch} {v : Int} (h : atP l v < 0) : takeP l v = ((l, []), 81) := by unfold takeP; rw [if_neg (by omega)]
theorem takeP_yes {l g r : List Patch} {v : Int} {k : Nat} (h : atP l v = (k : Int)) (e : (g, r) = group (l.drop k)) : takeP l v = ((l.take k ++ r, g), 0) := by
  unfold takeP; rw [if_pos (by omega), h, Int.toNat_natCast, ← e]
theorem takeP_swp {l : List Patch} {v : Int} : SwP l ((takeP l v).1.1 ++ (takeP l v).1.2) := by
  unfold takeP
  split
  · have h := (group_swp (l := l.drop (atP l v).toNat) (g := (group (l.drop (atP l v).toNat)).1) (r := (group (l.drop (atP l v).toNat)).2) rfl).ctx (l.take (atP l v).toNat) []
    rw [List.take_append_drop] at h
    simpa only [List.append_nil, List.append_assoc] using h
  · simp only [List.append_nil]; exact .refl
theorem takeP_ord {l : List Patch} {v : Int} (hn : (idsP l).Nodup) : ordR (idsP ((takeP l v).1.1 ++ (takeP l v).1.2)) l = some ((takeP l v).1.1 ++ (takeP l v).1.2) := by
  unfold takeP
  split
  · have hn' : (idsP (l.drop (atP l v).toNat)).Nodup := by
      unfold idsP at *; rw [List.map_drop]; exact hn.sublist (List.drop_sublist _ _)
    have h := ordR_pre (l.take (atP l v).toNat) (group_ord hn' (l := l.drop (atP l v).toNat) (g := (group (l.drop (atP l v).toNat)).1) (r := (group (l.drop (atP l v).toNat)).2) rfl)
    rw [List.take_append_drop, ← idsP_app] at h
    simpa only [List.append_assoc] using h
  · simp only [List.append_nil]; exact ordR_refl l
theorem takeP_order {l : List Patch} {v : Int} (hn : (idsP l).Nodup) : orderP l (idsP ((takeP l v).1.1 ++ (takeP l v).1.2)) = ((takeP l v).1.1 ++ (takeP l v).1.2, 0) :=
  orderP_some takeP_swp.ids (takeP_ord hn)
def undoP (T : List File) (g : List Patch) : List File := g.reverse.foldl (fun t p => (rowT t (invL p.l)).1) T
theorem undo_runs : ∀ {g : List Patch} {T U : List File}, Sor U → Go.Sx.Good U → Runs U (pl g) T → undoP T g = U := by
  intro g
  induction g with
  | nil => intro T U _ _ h; exact h.symm
  | cons p g ih =>
    intro T U hS hG h
    rw [pl_cons] at h
    obtain ⟨M, h1, h2⟩ := runs_app.1 h
    have hM := ih (runs_sor h1 hS) (runs_good h1 hG) h2
    unfold undoP at hM ⊢
    rw [List.reverse_cons, List.foldl_append, hM]
    simp only [List.foldl_cons, List.foldl_nil]
    rw [rowT_ok (runs_back hS hG h1)]
/-! the same, in whatever order -/
def sameP (a b : List Patch) : Bool := decide ((orderP b (idsP a)).2 = 0) && decide (a = (orderP b (idsP a)).1)
theorem sameP_iff {a b : List Patch} : sameP a b = true ↔ orderP b (idsP a) = (a, 0) := by
  unfold sameP
  rw [Bool.and_eq_true, decide_eq_true_iff, decide_eq_true_iff]
  constructor
  · rintro ⟨h1, h2⟩; exact Prod.ext h2.symm h1
  · intro h; rw [h]; exact ⟨rfl, rfl⟩
theorem sameP_refl (a : List Patch) : sameP a a = true := sameP_iff.2 (orderP_refl a)
theorem good_nil : Go.Sx.Good [] := fun x hx => by cases hx
structure LogI (m n : Nat) (l : List Patch) (T : List File) : Prop where
  ok : LogOk l T
  d : LogD l
  z : lns (pl l) ≤ m
  y : (pl l).length ≤ n
theorem LogI.nil : LogI 0 0 [] [] := ⟨LogOk.nil, LogD.nil, Nat.le_refl _, Nat.le_refl _⟩
theorem LogI.mono {m n m' n' : Nat} {l : List Patch} {T : List File} (h : LogI m n l T) (hm : m ≤ m') (hn : n ≤ n') : LogI m' n' l T := ⟨h.ok, h.d, Nat.le_trans h.z hm, Nat.le_trans h.y hn⟩
theorem LogI.swp {m n : Nat} {l l' : List Patch} {T : List File} (h : LogI m n l T) (hs : SwP l l') : LogI m n l' T :=
  ⟨hs.ok h.ok, hs.logD h.d, by rw [hs.swr.lns.1]; exact h.z, by rw [hs.swr.lns.2]; exact h.y⟩
theorem LogI.sub {m n : Nat} {a b : List Patch} {T : List File} (h : LogI m n (a ++ b) T) : ∃ U, LogI m n a U ∧ Runs U (pl b) T := by
  obtain ⟨ho, hd, hz, hy⟩ := h
  have hr := ho.runs
  rw [pl_app] at hr hz hy
  obtain ⟨U, h1, h2⟩ := runs_app.1 hr
  rw [lns_app] at hz
  rw [List.length_append] at hy
  refine ⟨U, ⟨⟨h1, ?_, fun p hp => ho.fit p (by simp [hp])⟩, hd.take a rfl, by omega, by omega⟩, h2⟩
  have hn := ho.nodup
  rw [idsP_app] at hn
  exact (List.nodup_append.1 hn).1
theorem LogI.good {m n : Nat} {l : List Patch} {T : List File} (h : LogI m n l T) : Sor T ∧ Go.Sx.Good T := ⟨runs_sor h.ok.runs Sor.nil, runs_good h.ok.runs good_nil⟩
theorem LogI.take {m n : Nat} {l : List Patch} {T : List File} (h : LogI m n l T) (v : Int) : LogI m n (takeP l v).1.1 (undoP T (takeP l v).1.2) ∧ Runs (undoP T (takeP l v).1.2) (pl (takeP l v).1.2) T := by
  obtain ⟨U, h1, h2⟩ := (h.swp (takeP_swp (v := v))).sub
  rw [undo_runs h1.good.1 h1.good.2 h2]
  exact ⟨h1, h2⟩
end Go.Proofs.YtppjcjlijmldiaaGreatDoor.X
end
section
set_option linter.unusedVariables false
set_option linter.unusedSimpArgs false
namespace Go.Proofs.YtppjcjlijmldiaaGreatDoor.X
open Go Go.RowKit Go.Proofs Go.Sx
/-! Calls of a log, as the document has them. -/
theorem LogI.app {m n : Nat} {l : List Patch} {T : List File} (h : LogI m n l T) : AppInv m n T := by
  have h0 : AppInv 0 0 [] := ⟨Sor.nil, (fun x hx => by cases hx), (fun x hx => by cases hx), Nat.le_refl _⟩
  have h1 := runs_inv h.ok.runs h0
  have h2 := news_lns (pl l)
  exact ⟨h1.so, h1.good, h1.lmax.mono (by have := h.z; omega), Nat.le_trans h1.len (by have := h.y; omega)⟩
theorem LogI.tree {m n : Nat} {l : List Patch} {T : List File} (h : LogI m n l T) : treeP l = T := h.ok.tree
theorem LogI.mem {m n : Nat} {l : List Patch} {T : List File} (h : LogI m n l T) {q : Patch} (hq : q ∈ l) : lns q.l ≤ m ∧ q.l.length ≤ n := by
  have := mem_pl hq
  have := h.z; have := h.y
  omega
def addD (l : List Patch) (q : Patch) : List Patch × Int :=
  if q.right = false then (l, 70) else if 0 ≤ atP l q.id then (l, 80) else if (q.deps.any fun d => decide (atP l d < 0)) = true then (l, 82) else
  if (rowT (treeP l) q.l).2 = 0 then (l ++ [q], 0) else (l, (rowT (treeP l) q.l).2)
def dropD (l : List Patch) : (List Patch × List Patch) × Int := if h : 0 < l.length then ((l.take (l.length - 1), [l[l.length - 1]'(by omega)]), 0) else ((l, []), 0)
structure LOp where
  kind : Int
  p : Patch
  id : Int
  ids : List Int
instance instRpLOp : Rp LOp where
  Lay := Rp.Lay Patch × (Option Addr × Nat)
  size := 7
  enc o y := [.int .i64 o.kind, .int .i64 o.p.id, .string o.p.note, .slice y.1.1.1 o.p.deps.length y.1.1.2, .slice y.1.2.1 o.p.l.length y.1.2.2, .int .i64 o.id, .slice y.2.1 o.ids.length y.2.2]
  len _ _ := rfl
  one _ _ v hv := by
    simp only [List.mem_cons, List.mem_nil_iff, or_false] at hv
    rcases hv with rfl | rfl | rfl | rfl | rfl | rfl | rfl <;> rfl
  asn o y := [slA y.1.1.1 o.p.deps, slA y.1.2.1 o.p.l, capA y.1.2.2 o.p.l.length, slA y.2.1 o.ids]
def doL (l : List Patch) (o : LOp) : (List Patch × List Patch) × Int :=
  if o.kind = 0 then (((addD l o.p).1, []), (addD l o.p).2) else if o.kind = 1 then (((lastP l o.id).1, []), (lastP l o.id).2) else if o.kind = 2 then dropD l
  else if o.kind = 3 then takeP l o.id else if o.kind = 4 then (((orderP l o.ids).1, []), (orderP l o.ids).2) else ((l, []), 0)
/-! the program's calls are these -/
theorem LogI.addP {m n : Nat} {l : List Patch} {T : List File} {q : Patch} (h : LogI m n l T) (hq : q.fit) :
    (X.addP l T q).1.1 = (addD l q).1 ∧ (X.addP l T q).2 = (addD l q).2 ∧ LogI (m + lns q.l) (n + q.l.length) (addD l q).1 (X.addP l T q).1.2 := by
  have hm : LogI (m + lns q.l) (n + q.l.length) l T := h.mono (by omega) (by omega)
  unfold X.addP addD
  rw [h.tree]
  by_cases h1 : q.right = false
  · rw [if_pos h1, if_pos h1]; exact ⟨rfl, rfl, hm⟩
  rw [if_neg h1, if_neg h1]
  by_cases h2 : 0 ≤ atP l q.id
  · rw [if_pos h2, if_pos h2]; exact ⟨rfl, rfl, hm⟩
  rw [if_neg h2, if_neg h2]
  by_cases h3 : (q.deps.any fun d => decide (atP l d < 0)) = true
  · rw [if_pos h3, if_pos h3]; exact ⟨rfl, rfl, hm⟩
  rw [if_neg h3, if_neg h3]
  by_cases h4 : (rowT T q.l).2 = 0
  · rw [if_pos h4, if_pos h4]
    refine ⟨rfl, rfl, ⟨h.ok.add hq ?_ (rowT_runs (by rw [← h4])), h.d.add (by simpa using h1) fun d hd => ?_, ?_, ?_⟩⟩
    · rcases atP_cases l q.id with ⟨h5, _⟩ | ⟨k, _, h5, _⟩
      · exact h5
      · omega
    · have h5 := List.any_eq_false.1 (by simpa using h3 : (q.deps.any fun d => decide (atP l d < 0)) = false) d hd
      exact at_mem.1 (by simpa using h5)
    · rw [pl_app, pl_one, lns_app]; have := h.z; omega
    · rw [pl_app, pl_one, List.length_append]; have := h.y; omega
  · rw [if_neg h4, if_neg h4]
    have h5 : (rowT T q.l).1 = T := rowT_no (e := (rowT T q.l).2) (l := q.l) rfl h4
    exact ⟨rfl, rfl, by dsimp only; rw [h5]; exact hm⟩
theorem lastP_swp (l : List Patch) (v : Int) : SwP l (lastP l v).1 := by
  unfold lastP
  split
  · rename_i h
    cases e : lastF (l[(atP l v).toNat]'h.2) (l.drop ((atP l v).toNat + 1)) with
    | none => exact .refl
    | some x =>
      have h1 := (lastF_swp (s := x.1) (b := x.2) e).ctx (l.take (atP l v).toNat) []
      rw [← List.drop_eq_getElem_cons h.2, List.take_append_drop] at h1
      simpa only [List.append_nil, List.append_assoc] using h1
  · exact .refl
theorem LogI.last {m n : Nat} {l : List Patch} {T : List File} (h : LogI m n l T) (v : Int) : LogI m n (lastP l v).1 T := h.swp (lastP_swp l v)
theorem LogI.order {m n : Nat} {l : List Patch} {T : List File} (h : LogI m n l T) (ids : List Int) : LogI m n (orderP l ids).1 T := h.swp (orderP_swp l ids)
theorem lastP_id {l l' : List Patch} {v : Int} (h : lastP l v = (l', 0)) : ∃ s b, l' = s ++ [b] ∧ b.id = v := by
  unfold lastP at h
  split at h
  · rename_i hk
    cases e : lastF (l[(atP l v).toNat]'hk.2) (l.drop ((atP l v).toNat + 1)) with
    | none => rw [e] at h; simp at h
    | some x =>
      rw [e] at h
      simp only [Prod.mk.injEq, and_true] at h
      refine ⟨_, _, h.symm, ?_⟩
      rw [(lastF_ids (s := x.1) (b := x.2) e).2]
      rcases atP_cases l v with ⟨h1, _⟩ | ⟨k, hk', h1, h2, _⟩
      · omega
      · have : (atP l v).toNat = k := by omega
        simp only [this]; exact h2
  · simp at h
theorem snoc_of {l : List Patch} (h : 0 < l.length) : l = l.take (l.length - 1) ++ [l[l.length - 1]'(by omega)] := by
  conv => lhs; rw [← List.take_append_drop (l.length - 1) l]
  rw [List.drop_eq_getElem_cons (by omega), List.drop_eq_nil_of_le (by omega)]
theorem LogI.drop {m n : Nat} {l : List Patch} {T : List File} (h : LogI m n l T) : (dropP l T).1.1 = (dropD l).1.1 ∧ LogI m n (dropD l).1.1 (dropP l T).1.2 ∧ (dropP l T).2.2 = decide (0 < l.length) ∧ (dropD l).2 = 0 ∧ (0 < l.length → (dropD l).1.2 = [(dropP l T).2.1] ∧ (dropP l T).2.1.fit) := by
  unfold dropP dropD
  by_cases h0 : 0 < l.length
  · rw [dif_pos h0, dif_pos h0]
    have e := snoc_of h0
    have h1 := h
    rw [e] at h1
    obtain ⟨U, h2, h3⟩ := h1.sub
    rw [pl_one] at h3
    rw [rowT_ok (runs_back h2.good.1 h2.good.2 h3)]
    exact ⟨rfl, h2, by simp [h0], rfl, fun _ => ⟨rfl, h.ok.fit _ (List.getElem_mem _)⟩⟩
  · rw [dif_neg h0, dif_neg h0]
    exact ⟨rfl, h, by simp [h0], rfl, fun h' => absurd h' h0⟩
theorem LogI.doL {m n : Nat} {l : List Patch} {T : List File} {o : LOp} (h : LogI m n l T) (hq : o.p.fit) : ∃ U, LogI (m + lns o.p.l) (n + o.p.l.length) (X.doL l o).1.1 U := by
  have hm : LogI (m + lns o.p.l) (n + o.p.l.length) l T := h.mono (by omega) (by omega)
  unfold X.doL
  split
  · exact ⟨_, (h.addP hq).2.2⟩
  split
  · exact ⟨_, hm.last _⟩
  split
  · exact ⟨_, hm.drop.2.1⟩
  split
  · exact ⟨_, (hm.take _).1⟩
  split
  · exact ⟨_, hm.order _⟩
  · exact ⟨_, hm⟩
theorem LogI.told {m n : Nat} {l : List Patch} {T : List File} {o : LOp} (h : LogI m n l T) : ∀ p ∈ (X.doL l o).1.2, p.fit := by
  unfold X.doL
  split
  · intro p hp; cases hp
  split
  · intro p hp; cases hp
  split
  · unfold dropD
    split
    · intro p hp; rw [List.mem_singleton.1 hp]; exact h.ok.fit _ (List.getElem_mem _)
    · intro p hp; cases hp
  split
  · intro p hp
    exact (takeP_swp (l := l) (v := o.id)).fit h.ok.fit p (List.mem_append_right _ hp)
  split
  · intro p hp; cases hp
  · intro p hp; cases hp
theorem takeP_len (l : List Patch) (v : Int) : (takeP l v).1.1.length + (takeP l v).1.2.length = l.length := by
  have := (takeP_swp (l := l) (v := v)).len
  rwa [List.length_append] at this
theorem pl_ge : ∀ {l : List Patch}, (∀ p ∈ l, p.right = true) → l.length ≤ (pl l).length
  | [], _ => Nat.le_refl _
  | p :: l, h => by
    have h1 := (right_parts (h p (by simp))).1.1
    have h2 := pl_ge (l := l) (fun q hq => h q (by simp [hq]))
    rw [pl_cons, List.length_append, List.length_cons]
    omega
theorem LogI.len {m n : Nat} {l : List Patch} {T : List File} (h : LogI m n l T) : l.length ≤ n := Nat.le_trans (pl_ge h.d.right) h.y
theorem LogI.self {m n : Nat} {l : List Patch} {T : List File} (h : LogI m n l T) : LogI m n l (treeP l) := by rw [h.tree]; exact h
theorem drop_no {l : List Patch} (h : ¬ 0 < l.length) : dropD l = ((l, []), 0) := by unfold dropD; rw [dif_neg h]
theorem drop_yes {l l1 : List Patch} {q : Patch} (h : 0 < l.length) (h1 : l1 = (dropD l).1.1) (h2 : (dropD l).1.2 = [q]) : dropD l = ((l1, [q]), 0) := by
  have h3 : (dropD l).2 = 0 := by unfold dropD; rw [dif_pos h]
  exact Prod.ext (Prod.ext h1.symm h2) h3
def madeL (ops : List LOp) : List Patch := ops.foldl (fun l o => (X.doL l o).1.1) []
def omz (ops : List LOp) : Nat := (ops.map fun o => lns o.p.l).sum
def omy (ops : List LOp) : Nat := (ops.map fun o => o.p.l.length).sum
theorem madeL_snoc (ops : List LOp) (o : LOp) : madeL (ops ++ [o]) = (X.doL (madeL ops) o).1.1 := by unfold madeL; rw [List.foldl_append]; rfl
theorem made_fold : ∀ (ops : List LOp) {l : List Patch} {T : List File} {m n : Nat}, (∀ o ∈ ops, o.p.fit) → LogI m n l T → ∃ U, LogI (m + omz ops) (n + omy ops) (ops.foldl (fun l o => (X.doL l o).1.1) l) U
  | [], l, T, m, n, _, h => ⟨T, h⟩
  | o :: ops, l, T, m, n, hf, h => by
    obtain ⟨U, h1⟩ := h.doL (hf o (by simp))
    obtain ⟨V, h2⟩ := made_fold ops (fun x hx => hf x (by simp [hx])) h1
    refine ⟨V, ?_⟩
    have e1 : m + omz (o :: ops) = m + lns o.p.l + omz ops := by unfold omz; simp only [List.map_cons, List.sum_cons]; omega
    have e2 : n + omy (o :: ops) = n + o.p.l.length + omy ops := by unfold omy; simp only [List.map_cons, List.sum_cons]; omega
    rw [e1, e2]; exact h2
theorem madeL_ok {ops : List LOp} (hf : ∀ o ∈ ops, o.p.fit) : LogI (omz ops) (omy ops) (madeL ops) (treeP (madeL ops)) := by
  obtain ⟨U, h⟩ := made_fold ops hf LogI.nil
  have h1 := h.self
  simp only [Nat.zero_add] at h1
  exact h1
theorem omz_take (ops : List LOp) (k : Nat) : omz (ops.take k) ≤ omz ops := by
  unfold omz
  conv => rhs; rw [← List.take_append_drop k ops, List.map_append, List.sum_append]
  omega
theorem omy_take (ops : List LOp) (k : Nat) : omy (ops.take k) ≤ omy ops := by
  unfold omy
  conv => rhs; rw [← List.take_append_drop k ops, List.map_append, List.sum_append]
  omega
theorem om_mem {ops : List LOp} {k : Nat} (hk : k < ops.length) : lns ops[k].p.l ≤ omz ops ∧ ops[k].p.l.length ≤ omy ops := by
  have h1 := sum_take_succ (f := fun o : LOp => lns o.p.l) hk
  have h2 := sum_take_le (fun o : LOp => lns o.p.l) ops (k + 1)
  have h3 := sum_take_succ (f := fun o : LOp => o.p.l.length) hk
  have h4 := sum_take_le (fun o : LOp => o.p.l.length) ops (k + 1)
  unfold omz omy
  omega
/-! what was taken, put back -/
theorem add_back {m n : Nat} {a g : List Patch} {p : Patch} {T : List File} (h : LogI m n (a ++ p :: g) T) : addD a p = (a ++ [p], 0) := by
  have h1 : LogI m n ((a ++ [p]) ++ g) T := by simpa using h
  obtain ⟨V, h2, _⟩ := h1.sub
  obtain ⟨U, h3, h4⟩ := h2.sub
  rw [pl_one] at h4
  unfold addD
  rw [if_neg (by rw [h2.d.right p (by simp)]; simp), if_neg, if_neg, h3.tree, if_pos (by rw [rowT_ok h4])]
  · intro h5
    obtain ⟨d, hd, h6⟩ := List.any_eq_true.1 h5
    have := at_mem.2 (h2.d.deps a p [] rfl d hd)
    have h7 : atP a d < 0 := by simpa using h6
    omega
  · intro h5
    have h6 := at_mem.1 h5
    have h7 := h2.ok.nodup
    rw [idsP_app, List.nodup_append] at h7
    exact h7.2.2 _ h6 _ (by simp [idsP]) rfl
end Go.Proofs.YtppjcjlijmldiaaGreatDoor.X
end
section
set_option linter.unusedVariables false
set_option linter.unusedSimpArgs false
namespace Go.Proofs.YtppjcjlijmldiaaGreatDoor.X
open Go Go.RowKit Go.Proofs Go.Sx
open Tryz
attribute [local irreducible] slA isA box row TrL TrC TrN TrA Pu OpR
set_option maxHeartbeats 8000000
theorem take_start {mm nn : Nat} {l g r : List Patch} {T : List File} {v : Int} {k : Nat} (h : LogI mm nn l T) (hk : atP l v = (k : Int)) (hg : (g, r) = group (l.drop k)) : LogI mm nn ((l.take k ++ r) ++ g) T := by
 have h1 := h.swp (takeP_swp (v := v))
 rw [takeP_yes hk hg] at h1
 exact h1
theorem take_back {mm nn : Nat} {F g : List Patch} {W U : List File} {e : Int} {k j : Nat} (hW : LogI mm nn (F ++ g.take (g.length - j)) W) (hk : k < g.length) (hx : k + j + 1 = g.length) (hq : (U, e) = rowT W (invL g[k].l)) {j' : Nat} (hj : j' = j + 1 := by simp) : LogI mm nn (F ++ g.take (g.length - j')) U := by
 subst hj
 rw [show g.length - j = k + 1 by omega, List.take_succ_eq_append_getElem hk, ← List.append_assoc] at hW
 obtain ⟨V, h1, h2⟩ := hW.sub
 rw [pl_one] at h2
 have h3 := rowT_ok (runs_back h1.good.1 h1.good.2 h2)
 rw [← hq] at h3
 rw [show g.length - (j + 1) = k by omega]
 rw [(Prod.mk.inj h3).1]; exact h1
set_option maxRecDepth 100000 in
theorem c_logTakeN (l : List Patch) (A : Option Addr) (c : Nat) (hl : l.length ≤ 2000000) (hf : ∀ q ∈ l, q.fit) (hc : l.length ≤ c) (hA : A = none → c = 0) (pl p b : Nat) (v : Int) (T : List File) (mm nn : Nat) (hI : LogI mm nn l T) (hmm : mm ≤ 600000) (hnn : nn ≤ 600000) (hn : atP l v < 0) : Con Tryz.prog 36 [.pointer (some ⟨pl, 0, none⟩), .int .i64 v] [row 55 A c l, box pl 82 [.slice A l.length c, .pointer (some ⟨p, 0, none⟩)], box p 119 [.map (some b)], tr b T] [] {x : ((List Patch × List Patch) × Int) × ((Option Addr × Nat) × (Option Addr × Nat)) // x.1 = takeP l v} (fun x => .tuple #[.slice x.1.2.2.1 x.1.1.1.2.length x.1.2.2.2, .int .i64 x.1.1.2]) (fun x => [box pl 82 [.slice x.1.2.1.1 x.1.1.1.1.length x.1.2.1.2, .pointer (some ⟨p, 0, none⟩)], row 55 x.1.2.1.1 x.1.2.1.2 x.1.1.1.1, box p 119 [.map (some b)], tr b (treeP x.1.1.1.1)]) (fun x => [slA x.1.2.2.1 x.1.1.1.2, nilA x.1.2.2, capA x.1.2.2.2 x.1.1.1.2.length]) := by
 refine con func36 rfl ntmps36 rfl ?_
 intro M0 F0 w0
 refine k_ 2 ?_
 refine ls (o_box rfl rfl rfl) ?_
 refine le ?_; intro b2
 refine k_ 8 ?_
 refine lC [2, 1] call53 (c_logAtW l A c hl pl p v) ?_; intro x13
 refine k_ 10 ?_
 refine cc rfl ?_ ?_
 ·
  intro h15
  have hT := hI.tree
  refine cs ?_
  refine cmono (fun a w h => nilSl (α := Patch) h) ?_
  refine cmono (fun a w h => nilQ (y := (none, 0)) (fun _ => rfl) h) ?_
  refine cmono (fun a w h => capQ (c := 0) (m := 0) (Nat.le_refl _) h) ?_
  rw [← hT]
  refine k_ 7 ?_
  exact rR [0, 0, 1, 1] ⟨(((l, []), 81), ((A, c), (none, 0))), (takeP_no hn).symm⟩
 ·
  intro h15
  exact absurd hn (of_decide_eq_false h15)
set_option maxRecDepth 100000 in
theorem c_logTakeY (l : List Patch) (A : Option Addr) (c : Nat) (hl : l.length ≤ 2000000) (hf : ∀ q ∈ l, q.fit) (hc : l.length ≤ c) (hA : A = none → c = 0) (pl p b : Nat) (v : Int) (T : List File) (mm nn : Nat) (hI : LogI mm nn l T) (hmm : mm ≤ 600000) (hnn : nn ≤ 600000) (hv : ¬ atP l v < 0) : Con Tryz.prog 36 [.pointer (some ⟨pl, 0, none⟩), .int .i64 v] [box pl 82 [.slice A l.length c, .pointer (some ⟨p, 0, none⟩)], box p 119 [.map (some b)], tr b T] [slA A l] {x : ((List Patch × List Patch) × Int) × ((Option Addr × Nat) × (Option Addr × Nat)) // x.1 = takeP l v} (fun x => .tuple #[.slice x.1.2.2.1 x.1.1.1.2.length x.1.2.2.2, .int .i64 x.1.1.2]) (fun x => [box pl 82 [.slice x.1.2.1.1 x.1.1.1.1.length x.1.2.1.2, .pointer (some ⟨p, 0, none⟩)], row 55 x.1.2.1.1 x.1.2.1.2 x.1.1.1.1, box p 119 [.map (some b)], tr b (treeP x.1.1.1.1)]) (fun x => [slA x.1.2.2.1 x.1.1.1.2, nilA x.1.2.2, capA x.1.2.2.2 x.1.1.1.2.length]) := by
 refine con func36 rfl ntmps36 rfl ?_
 intro M0 F0 w0
 refine k_ 2 ?_
 refine ls (o_box rfl rfl rfl) ?_
 refine le ?_; intro b2
 refine k_ 8 ?_
 refine lC [1] call53 (c_logAtO l A c hl pl p v) ?_; intro x13
 refine k_ 10 ?_
 refine cc rfl ?_ ?_
 ·
  intro h15
  exact absurd (of_decide_eq_true h15) hv
 ·
  intro h15
  have hn : ¬ atP l v < 0 := of_decide_eq_false h15
  obtain ⟨k, hk1, hk2, _⟩ : ∃ k : Nat, ∃ h : k < l.length, atP l v = (k : Int) ∧ l[k].id = v ∧ ∀ j (hj : j < k), l[j].id ≠ v := by rcases atP_cases l v with ⟨h, _⟩ | h; omega; exact h
  have hDl : (l.drop k).length = l.length - k := List.length_drop
  have hfD : ∀ q ∈ l.drop k, q.fit := fun q hq => hf q (List.mem_of_mem_drop hq)
  refine k_ 3 ?_
  refine cmono (fun a w h => subS (l' := l.drop k) (c := c) k l.length (by repeat (first | exact In.z | apply In.s)) (by omega) (Nat.le_refl _) hc (by rw [List.take_of_length_le (by simp)]) h) ?_
  refine k_ 2 ?_
  refine ls (op (p_nilck rfl) rfl) ?_
  refine k_ 3 ?_
  refine ls (op (p_sll k (by omega) (by omega) hk2 underlying37 sizeOf55 rfl rfl) rfl) ?_
  refine fixL (slen (m' := (l.drop k).length) (by omega)) ?_
  refine lC [] call55 (c_nGroup (l.drop k) (if c = k then A else A.map (·.add (k * Rp.size Patch))) (c - k) (by omega) hfD) ?_; rintro ⟨⟨⟨g, r⟩, ⟨⟨Ag, cg⟩, ⟨Ar, cR⟩⟩⟩, hg⟩
  dsimp only at hg
  have hG := group_GI8 hfD; rw [← hg] at hG; have hgl := hG.len; dsimp only at hgl
  have hI0 : LogI mm nn ((l.take k ++ r) ++ g) T := take_start hI hk2 hg
  refine k_ 11 ?_
  refine lC [] call72 (c_BackwardP g Ag cg) ?_; intro b27
  refine k_ 3 ?_
  refine crng (ι := fun pre => {W : List File // LogI mm nn ((l.take k ++ r) ++ g.take (g.length - pre.length)) W}) rfl call104 (c_BackwardP1 g Ag cg (by omega) b27) (fun _ => rfl) rfl (fun pre i => [box b2 25 [.pointer (some ⟨pl, 0, none⟩)], box pl 82 [.slice A l.length c, .pointer (some ⟨p, 0, none⟩)], box p 119 [.map (some b)], tr b i.1]) (fun pre i => []) (⟨T, by simpa using hI0⟩) (Y := Empty) (fun _ => []) (fun _ => []) (is := [2, 1, 1, 1, 0]) rfl Ω Ω ?_ ?_ ?_
  ·
   rintro M0 F0 w0 lp κ pre ⟨⟨k2, yk⟩, hk⟩ hx ⟨W, hW⟩
   dsimp only at hk hx hW ⊢
   have hfk := hG.fg _ (List.getElem_mem hk)
   have hgm : g[k2] ∈ (l.take k ++ r) ++ g := List.mem_append_right _ (List.getElem_mem hk)
   have hmg := hI0.mem hgm
   have hii := invL_len g[k2].l
   have hil := lns_inv g[k2].l
   refine cmono (S' := St M0 F0 w0 ⟨49, []⟩ [(2, .pointer (some ⟨b2, 0, none⟩)), (29, sv g[k2] yk)] [lrec lp κ .ready none, box b2 25 [.pointer (some ⟨pl, 0, none⟩)], box pl 82 [.slice A l.length c, .pointer (some ⟨p, 0, none⟩)], box p 119 [.map (some b)], tr b W] [slA yk.1.1 g[k2].deps, slA yk.2.1 g[k2].l, capA yk.2.2 g[k2].l.length]) (wk0 Φ Ω) ?_
   refine cr ?_
   refine ls (o_alloc zeroValue55 rfl rfl) ?_
   refine le ?_; intro b10
   refine k_ 2 ?_
   refine nbegin (i := 1) rfl ?_
   refine cb ?_
   refine cd [6, 7] [(0, b2, 0, _), (3, pl, 1, _), (5, b10, 3, _)] TryzX.mixed (TOk.t (isBoxS Θ (k := 1) Δ) (TOk.t (isBoxS Θ (k := 1) Δ) (TOk.t (isBoxS Θ (k := 1) Δ) TOk.d))) ?_
   refine u_ 0 1 ?_
   refine tk 1 rfl Ψ Υ gnone (TTany _) (p_nilck rfl) rfl ?_
   refine u_ 2 4 ?_
   refine df 6 Ψ ?_
   refine doR rfl (o_call (is := []) call64 (c_seqInvertC g[k2].l yk.2.1 yk.2.2 hfk.ll hfk.lf) rfl rfl Ω rfl) (TOk.t (isBoxE fun _ => isBoxS Θ (k := 1) Δ) (TOk.t (isBoxE fun _ => isBoxS Θ (k := 1) Δ) (TOk.x Ψ TOk.d))) ?_
   refine ea ?_; rintro ⟨A36, c36⟩
   refine apure (St.cap (m := (invL g[k2].l).length) (c := c36) Θ) ?_
   intro hcap36
   refine df 7 Ψ ?_
   refine doR rfl (o_call (is := [4, 4]) call38 (c_seqApply p b W mm nn hW.app (invL g[k2].l) A36 c36 hcap36 (by omega) (invL_fit hfk.lf) (by omega) (by omega)) rfl rfl Ω rfl) tX ?_
   refine ea ?_; rintro ⟨⟨U, e37⟩, hq⟩
   refine dn Ψ ?_
   refine k_ 1 ?_
   exact nround ⟨U, take_back hW hk hx hq⟩ (is := [2, 3, 3, 0, 0]) rfl Ω
  ·
   rintro D xs hC ⟨W, hW⟩
   try dsimp only at hC hW
   obtain rfl : W = treeP [l.take k, r].flatten := by rw [hC, Nat.sub_self, List.take_zero, List.append_nil] at hW; rw [← hW.tree]; simp
   refine nmono (fun a w h => subS (l' := l.take k) (c := c) 0 k (by repeat (first | exact In.z | apply In.s)) (by omega) (by omega) hc (by simp) h) ?_
   refine nmono (fun a w h => nilQ (y := ((if c = 0 then A else A.map (·.add (0 * Rp.size Patch))), c - 0)) (fun e => sub_nil hA e) h) ?_
   refine k_ 3 ?_
   refine cd [8, 9] [(0, b2, 0, _), (1, b2, 0, _), (4, pl, 0, _)] TryzX.mixed (TOk.t (isBoxS Θ (k := 1) Δ) (TOk.t (isBoxS Θ (k := 1) Δ) (TOk.t (isBoxS Θ (k := 1) Δ) TOk.d))) ?_
   refine u_ 0 2 ?_
   refine tk 2 rfl Ψ Υ gnone (TTany _) (p_nilck rfl) rfl ?_
   refine u_ 3 3 ?_
   refine tk 6 rfl Ψ Υ gnone (TTany _) (p_slh k (by omega) hk2 underlying37 sizeOf55 rfl rfl) rfl ?_
   refine fixA (slen (m' := (l.take k).length) (by rw [List.length_take]; omega)) ?_
   refine u_ 7 1 ?_
   refine df 8 Ψ ?_
   refine doR rfl (o_bsl [l.take k, r] underlying157 sizeOf37 zeroValue37 rfl (Enum.t (Enum.t Enum.d)) (RV.t ((if c = 0 then A else A.map (·.add (0 * Rp.size Patch))), c - 0) rfl Ω (RV.t (Ar, cR) rfl Ω RV.d)) rfl (by decide) (by decide) rfl) (TOk.t (isBoxE fun _ => isBoxS Θ (k := 1) Δ) (TOk.x Ψ (TOk.x Ψ TOk.d))) ?_
   refine ea ?_; intro b46
   refine amono (fun a w h => Go.Sx.freeze (i := 0) rfl h) ?_
   refine df 9 Ψ ?_
   refine doR rfl (o_call (is := [1]) call63 (c_logPut [l.take k, r] (some ⟨b46, 0, none⟩) 2 (by simp) (by simp only [List.flatten_cons, List.flatten_nil, List.length_append, List.length_take, List.length_nil]; omega) pl p (.slice A l.length c)) rfl rfl Ω rfl) tX ?_
   refine ea ?_; rintro ⟨A47, c47⟩
   refine dn Ψ ?_
   refine k_ 10 ?_
   refine rretm (Dfr.c (i := 6) rfl Dfr.d) (is := [0, 0, 1, 1]) ⟨((([l.take k, r].flatten, g), 0), ((A47, c47), (Ag, cg))), by rw [takeP_yes hk2 hg]; simp⟩ (Or.inl rfl) (Res.t rfl (Res.t rfl Res.d)) (rfl) rfl Ω
  ·
   intro D y
   exact y.elim
theorem c_logTake (l : List Patch) (A : Option Addr) (c : Nat) (hl : l.length ≤ 2000000) (hf : ∀ q ∈ l, q.fit) (hc : l.length ≤ c) (hA : A = none → c = 0) (pl p b : Nat) (v : Int) (T : List File) (mm nn : Nat) (hI : LogI mm nn l T) (hmm : mm ≤ 600000) (hnn : nn ≤ 600000) : Con Tryz.prog 36 [.pointer (some ⟨pl, 0, none⟩), .int .i64 v] [row 55 A c l, box pl 82 [.slice A l.length c, .pointer (some ⟨p, 0, none⟩)], box p 119 [.map (some b)], tr b T] [] {x : ((List Patch × List Patch) × Int) × ((Option Addr × Nat) × (Option Addr × Nat)) // x.1 = takeP l v} (fun x => .tuple #[.slice x.1.2.2.1 x.1.1.1.2.length x.1.2.2.2, .int .i64 x.1.1.2]) (fun x => [box pl 82 [.slice x.1.2.1.1 x.1.1.1.1.length x.1.2.1.2, .pointer (some ⟨p, 0, none⟩)], row 55 x.1.2.1.1 x.1.2.1.2 x.1.1.1.1, box p 119 [.map (some b)], tr b (treeP x.1.1.1.1)]) (fun x => [slA x.1.2.2.1 x.1.1.1.2, nilA x.1.2.2, capA x.1.2.2.2 x.1.1.1.2.length]) := by
 by_cases hn : atP l v < 0
 ·
  exact c_logTakeN l A c hl hf hc hA pl p b v T mm nn hI hmm hnn hn
 ·
  exact borrowC (fun _ => false) (c_logTakeY l A c hl hf hc hA pl p b v T mm nn hI hmm hnn hn) (fun x hx => by cases hx)
end Go.Proofs.YtppjcjlijmldiaaGreatDoor.X
end
section
set_option linter.unusedVariables false
set_option linter.unusedSimpArgs false
namespace Go.Sx
open Go Go.RowKit
/-! Numbers, sorted. -/
def sortI (l : List Int) : List Int := l.mergeSort fun x y => decide (x ≤ y)
theorem sortI_perm (l : List Int) : (sortI l).Perm l := List.mergeSort_perm _ _
theorem sortI_length (l : List Int) : (sortI l).length = l.length := (sortI_perm l).length_eq
theorem sortI_eq {l m : List Int} : sortI l = sortI m ↔ l.Perm m := by
  constructor
  · intro h
    exact (sortI_perm l).symm.trans (h ▸ sortI_perm m)
  · intro h
    have hs : ∀ l : List Int, (sortI l).Pairwise fun x y => decide (x ≤ y) = true := fun l =>
      List.pairwise_mergeSort (fun a b c h1 h2 => by simp only [decide_eq_true_eq] at *; omega) (fun a b => by simp only [Bool.or_eq_true, decide_eq_true_eq]; omega) l
    exact List.Perm.eq_of_pairwise (le := fun x y : Int => decide (x ≤ y) = true) (fun a b _ _ h1 h2 => by simp only [decide_eq_true_eq] at h1 h2; omega) (hs l) (hs m) ((sortI_perm l).trans (h.trans (sortI_perm m).symm))
theorem rowE_intsEq {M : Nat → Prop} {w : World} : ∀ {l : List Int} {xs : List Value}, RowE M w l xs → xs = l.map (fun b => Value.int .i64 b)
  | _, _, .nil => rfl
  | _, _, .snoc y h _ => by
    rw [rowE_intsEq h]; simp [Rp.enc]
open Go.Sort Go.Proofs in
theorem con_sortI {P : Program} {f : FuncId} (e : TypeId) (A : Option Addr) (c : Nat) (l : List Int) (hl : l.length ≤ 2000000)
    (h0 : ∀ w, Calls P f #[.slice none 0 0] w fun e w' => e = .returned (.tuple #[]) ∧ w' = w)
    (h1 : ∀ (blk cap : Nat) (ss : List Int) (w : World), Holds (Value.int .i64) w blk 0 ss.toArray → blk < w.heap.size → ss.length < 4611686018427387904 → Calls P f #[.slice (some ⟨blk, 0, none⟩) ss.length cap] w fun e w' =>
      e = .returned (.tuple #[]) ∧ ∃ n os, w' = grow (putRow (Value.int .i64) (Sort.ahead w n) blk 0 (ss.mergeSort fun x y => decide (x ≤ y)).toArray) os) :
    Con P f [.slice A l.length c] [row e A c l] [] Unit (fun _ => .tuple #[]) (fun _ => [row e A c (sortI l)]) (fun _ => []) := by
  intro M0 Fs w hh
  obtain ⟨F, rfl⟩ : ∃ F, Fs = [F] := by
    match Fs, hh.ex with
    | [F], _ => exact ⟨F, rfl⟩
    | _ :: _ :: _, h => exact h.2.elim
  obtain ⟨⟨xs, ho, hF, hr⟩, _⟩ := hh.ex
  have hxs := rowE_intsEq hr
  subst hxs
  rcases ho.2 with ⟨hnil, h0l⟩ | ⟨g, cap, cur, hv, hbase, hb, h2, h3, h4, h5⟩
  · obtain ⟨rfl, hl', rfl⟩ : A = none ∧ l.length = 0 ∧ c = 0 := by simpa using hnil
    have hl0 : l = [] := List.eq_nil_of_length_eq_zero hl'
    subst hl0
    refine (h0 w).mono ?_
    rintro en w' ⟨rfl, rfl⟩
    refine ⟨(), [F], rfl, ?_⟩
    refine hh.one (Upd.refl _ _) (fun b h => .inl h) (fun b h => hh.lt b (by simp [own, h])) ?_
    refine ⟨[], ?_, hF, by simpa [sortI] using RowE.nil⟩
    simpa [sortI] using ho
  · obtain ⟨rfl, rfl⟩ : A = some ⟨g, 0, none⟩ ∧ c = cap := by simpa using hv
    have hH : Holds (Value.int .i64) w g 0 l.toArray := by
      refine holds_of_blockI hb ?_
      have : l.length * Rp.size Int = l.length := Nat.mul_one _
      rw [this] at h5
      exact h5
    have hlt : g < w.heap.size := (Array.getElem?_eq_some_iff.1 hb).1
    have hc := h1 g c l w hH hlt (by omega)
    refine hc.mono ?_
    rintro en w' ⟨rfl, k, os, rfl⟩
    refine ⟨(), [F], rfl, ?_⟩
    have hg := grownBy_sortedI (w := w) (g := g) (n := k) (os := os) (l.mergeSort fun x y => decide (x ≤ y)).toArray
    have hFg : ∀ b, F b ↔ g = b := fun b => by rw [hF]; simp [Value.ownBlock]
    refine hh.one ⟨hg.os, hg.tape, hg.output, hg.size, fun b hb hn => hg.block b hb (fun e' => hn ((hFg b).2 (by simpa using e'.symm)))⟩ (fun b h => .inl h) (fun b h => Nat.lt_of_lt_of_le (hh.lt b (by simp [own, h])) hg.size) ?_
    refine ⟨(sortI l).map fun b => Value.int .i64 b, ?_, ?_, rowE_ints⟩
    · have hs := ownsRow_sortedI (w := w) (base := 0) (g := g) (cap := c) (n := k) (e := e) (os := os) (cur := cur) (ss := l) (ts := l.mergeSort fun x y => decide (x ≤ y)) (by simp) (Nat.zero_le _) hb (by simpa using h2) h3 h4
      rw [← sortI_length l] at hs
      exact hs
    · intro b
      rw [sortI_length]
      exact hF b
end Go.Sx
end
section
set_option linter.unusedVariables false
set_option linter.unusedSimpArgs false
namespace Go.Proofs.YtppjcjlijmldiaaGreatDoor.X
open Go Go.RowKit Go.Proofs Go.Sx
open Tryz
attribute [local irreducible] slA isA box row TrL TrC TrN TrA Pu OpR
set_option maxHeartbeats 8000000
set_option maxRecDepth 100000 in
theorem c_vals (l : List Int) (A : Option Addr) (c : Nat) : Con Tryz.prog 59 [.slice A l.length c] [] [] Nat (fun b => .func (.func 95) #[] #[.pointer (some ⟨b, 0, none⟩)]) (fun b => [box b 28 [.slice A l.length c]]) (fun _ => []) := by
 refine con func59 rfl ntmps59 rfl ?_
 intro M0 F0 w0
 refine k_ 2 ?_
 refine ls (o_box rfl rfl rfl) ?_
 refine le ?_; intro b1
 refine k_ 5 ?_
 refine ls (op (p_mkf rfl) rfl) ?_
 refine k_ 5 ?_
 exact rR [0] b1
set_option maxRecDepth 100000 in
theorem c_vals1 (l : List Int) (A : Option Addr) (c : Nat) (hl : l.length ≤ 2000000) (B : Nat) : Iter Tryz.prog 95 [.pointer (some ⟨B, 0, none⟩)] (fun x : Int => [.int .i64 x]) (fun _ => []) (fun pre x => l[pre.length]? = some x) (fun xs => xs.length = l.length ∧ xs = l) [box B 28 [.slice A l.length c]] [slA A l] := by
 intro lp J Jx hY
 refine con func95 rfl ntmps95 rfl ?_
 intro M0 F0 w0
 refine k_ 8 ?_
 refine cl (ι := {k : Nat // k ≤ l.length}) (fun i => St M0 F0 w0 16 [(0, .func (.yield lp) #[] #[]), (5, .slice A l.length c), (6, .int .i64 (l.length : Int)), (7, .int .i64 (i.1 : Int))] [J (l.take i.1), box B 28 [.slice A l.length c]] [slA A l]) (fun i => l.length - i.1) ⟨0, Nat.zero_le _⟩ (wk0 Φ Ω) ?_
 rintro ⟨k, hk⟩
 refine cmono (S' := St M0 F0 w0 16 [(0, .func (.yield lp) #[] #[]), (5, .slice A l.length c), (6, .int .i64 (l.length : Int)), (7, .int .i64 (k : Int))] [J (l.take k), box B 28 [.slice A l.length c]] [slA A l]) Ħ ?_
 refine k_ 6 ?_
 refine cc rfl ?_ ?_
 ·
  intro h8
  try simp only [nrmZ] at h8
  have hk1 : k < l.length := by omega
  refine k_ 5 ?_
  refine elC Θ k (List.getElem?_eq_getElem (l := l) hk1) ?_; rintro zbp zop zyp hAp
  refine cr ?_
  refine ls (op (p_ia k hAp hk1 rfl underlying28 sizeOf3 rfl rfl) rfl) ?_
  refine ls (o_ldi isAgg3 rfl Θ 0 rfl Δ rfl) ?_
  refine k_ 7 ?_
  refine ls (o_yield (i := 0) rfl (by have := hY (l.take k) l[k] (by show l[(l.take k).length]? = some l[k]; rw [List.length_take, Nat.min_eq_left hk]; exact List.getElem?_eq_getElem hk1); rw [← List.take_succ_eq_append_getElem hk1] at this; exact this) rfl rfl Ω rfl) ?_
  refine le ?_; intro bb
  refine k_ 3 ?_
  refine cc rfl ?_ ?_
  ·
   intro h14
   obtain rfl : false = bb := by cases bb <;> first | rfl | (simp at h14)
   refine k_ 2 ?_
   exact rR [0, 0] ⟨none, fun _ h => by cases h⟩
  ·
   intro h14
   obtain rfl : true = bb := by cases bb <;> first | rfl | (simp at h14)
   refine k_ 7 ?_
   refine nnext ⟨k + 1, hk1⟩ (by dsimp only; omega) (wK [0, 0])
 ·
  intro h8
  try simp only [nrmZ] at h8
  refine k_ 4 ?_
  exact rR [0, 0] ⟨some (l.take k), fun xs h => by cases h; exact ⟨by rw [List.length_take]; omega, List.take_of_length_le (by omega)⟩⟩
set_option maxRecDepth 100000 in
theorem c_appSeqI (l : List Int) (A : Option Addr) (c : Nat) (hl : l.length ≤ 2000000) (B : Nat) : Con Tryz.prog 129 [.slice none 0 0, .func (.func 95) #[] #[.pointer (some ⟨B, 0, none⟩)]] [box B 28 [.slice A l.length c]] [slA A l] (Option Addr × Nat) (fun y => .slice y.1 l.length y.2) (fun y => [row 3 y.1 y.2 l]) (fun _ => []) := by
 refine con func129 rfl ntmps129 rfl ?_
 intro M0 F0 w0
 refine k_ 2 ?_
 refine ls (o_box rfl rfl rfl) ?_
 refine le ?_; intro b2
 refine k_ 5 ?_
 refine cmono (fun a w h => nilRow (α := Int) 3 h) ?_
 refine k_ 5 ?_
 refine crng (ι := fun _ => Option Addr × Nat) rfl call95 (c_vals1 l A c hl B) (fun _ => rfl) rfl (fun pre i => [box b2 28 [.slice i.1 pre.length i.2], row 3 i.1 i.2 pre]) (fun _ _ => []) ((none, 0)) (Y := Empty) (fun _ => []) (fun _ => []) (is := [1, 0, 0]) rfl Ω Ω ?_ ?_ ?_
 ·
  rintro M0 F0 w0 lp κ pre x hx ⟨A2, c2⟩
  have hlt : pre.length < l.length := (List.getElem?_eq_some_iff.1 hx).1
  refine cmono (S' := St M0 F0 w0 ⟨13, []⟩ [(2, .pointer (some ⟨b2, 0, none⟩)), (7, .int .i64 x)] [lrec lp κ .ready none, box b2 28 [.slice A2 pre.length c2], row 3 A2 c2 pre] []) (wk0 Φ Ω) ?_
  refine k_ 3 ?_
  refine nbegin (i := 0) rfl ?_
  refine k_ 4 ?_
  refine ls (o_bsl [x] underlying28 sizeOf3 zeroValue3 rfl (Enum.t Enum.d) (RV.t () rfl Sub.d RV.d) rfl (by decide) (by decide) rfl) ?_
  refine le ?_; intro b10
  refine lmono (fun a w h => Go.Sx.freeze (i := 0) rfl h) ?_
  refine ls (o_app (is := [2]) underlying28 inf3 rfl (by decide) (by decide) rfl rfl (by simp only [List.length_cons, List.length_nil]; omega) (fun h => by cases h) rfl Ω rfl) ?_
  refine le ?_; rintro ⟨A3, c3⟩
  refine k_ 3 ?_
  exact nround (A3, c3) (is := [1, 1, 0]) rfl Ω
 ·
  rintro D xs ⟨hC, hC2⟩ ⟨A2, c2⟩
  subst hC2
  refine k_ 10 ?_
  refine rretm (Dfr.c (i := 3) rfl Dfr.d) (is := [1]) (A2, c2) (Or.inl rfl) (Res.t rfl Res.d) (rfl) rfl Ω
 ·
  intro D y
  exact y.elim
set_option maxRecDepth 100000 in
theorem c_collI (l : List Int) (A : Option Addr) (c : Nat) (hl : l.length ≤ 2000000) (B : Nat) : Con Tryz.prog 93 [.func (.func 95) #[] #[.pointer (some ⟨B, 0, none⟩)]] [box B 28 [.slice A l.length c]] [slA A l] (Option Addr × Nat) (fun y => .slice y.1 l.length y.2) (fun y => [row 3 y.1 y.2 l]) (fun _ => []) := by
 refine con func93 rfl ntmps93 rfl ?_
 intro M0 F0 w0
 refine k_ 8 ?_
 refine lC [0] call129 (c_appSeqI l A c hl B) ?_; intro x4
 refine k_ 5 ?_
 exact rR [0] x4
theorem l_SortI (e : TypeId) (A : Option Addr) (c : Nat) (l : List Int) (hl : l.length ≤ 2000000) : Con Tryz.prog 94 [.slice A l.length c] [row e A c l] [] Unit (fun _ => .tuple #[]) (fun _ => [row e A c (sortI l)]) (fun _ => []) :=
 con_sortI e A c l hl (fun w => Tryz.slices_Sort_int_none none 0 w) (fun blk cap ss w h1 h2 h3 => Tryz.slices_Sort_int blk 0 cap ss w h1 h2 h3)
set_option maxRecDepth 100000 in
theorem c_sortedI (l : List Int) (A : Option Addr) (c : Nat) (hl : l.length ≤ 2000000) (B : Nat) : Con Tryz.prog 58 [.func (.func 95) #[] #[.pointer (some ⟨B, 0, none⟩)]] [box B 28 [.slice A l.length c]] [slA A l] (Option Addr × Nat) (fun y => .slice y.1 (sortI l).length y.2) (fun y => [row 3 y.1 y.2 (sortI l)]) (fun _ => []) := by
 refine con func58 rfl ntmps58 rfl ?_
 intro M0 F0 w0
 refine k_ 8 ?_
 refine lC [0] call93 (c_collI l A c hl B) ?_; rintro ⟨A5, c5⟩
 refine k_ 6 ?_
 refine lC [0] call94 (l_SortI 3 A5 c5 l hl) ?_; intro u7
 refine k_ 5 ?_
 refine fixL (slen (m' := (sortI l).length) (sortI_length l).symm) ?_
 refine k_ 5 ?_
 exact rR [0] (A5, c5)
end Go.Proofs.YtppjcjlijmldiaaGreatDoor.X
end
section
set_option linter.unusedVariables false
set_option linter.unusedSimpArgs false
namespace Go.Sx
open Go Go.RowKit
/-! A deferred call of a function that neither defers nor recovers. -/
def DCon (P : Program) (f : FuncId) (args : List Value) (Ξi : List Xsn) (Γi : List Asn) (X : Type) (Ξo : X → List Xsn) (Γo : X → List Asn) : Prop :=
  ∀ M0 Fs w u, Hp M0 (own Fs) w Ξi Γi Fs w → CallsDIn Fence.wide 0 P f args.toArray u w fun e u' w' => u' = u ∧ ∃ v x Fs', e = .returned v ∧ Hp M0 (own Fs) w (Ξo x) (Γo x) Fs' w'
variable {ro : Option Nat} {P : Program} {M0 F0 : Nat → Prop} {w0 : World} {n : Nm} {σ : List (Nat × Value)} {Ξ : List Xsn} {Γ : List Asn} {d : Nat} {ty : TypeId} {pos : String} {af : Array Edge}
variable {ops : Array Oper} {Q : Exit → Act → World → Prop} {S S' : Act → World → Prop}
theorem dcon {n : Nat} {f : FuncId} {fn : Func} {c : Code} {vs : List Value} {Ξi : List Xsn} {Γi : List Asn} {X : Type} {rv : X → Value} {Ξo : X → List Xsn} {Γo : X → List Asn}
    (hf : P.funcs[f]? = some fn) (hb : fn.body = some c) (hn : fn.ntmps = n) (hl : Nat.ble vs.length n = true)
    (h : ∀ M0 F0 w0, TrC none P (bodyPost P fn (Post P rv Ξo Γo M0 F0 w0)) (St M0 F0 w0 ⟨n, []⟩ (initσ 0 vs) Ξi Γi) c) : DCon P f vs Ξi Γi X Ξo Γo := by
  intro M0 Fs w u hh
  have hl' : vs.length ≤ n := by simpa [Nat.ble_eq] using hl
  refine CallsDIn.mono (callsDIn_of_wp (u := u) hf hb trivial (h M0 (own Fs) w _ _ ⟨⟨rfl, ?_, ?_⟩, Fs, hh⟩)) ?_
  · simp [hn]; omega
  · intro t v ht
    have := (look_init vs 0 t v ht).2
    simp only [Nat.sub_zero] at this
    have hlt : t < vs.length := (List.getElem?_eq_some_iff.1 this).1
    have h2 : vs[t] = v := (List.getElem?_eq_some_iff.1 this).2
    simp [Array.getD_eq_getD_getElem?, Array.getElem?_append, hlt, h2]
  · rintro e u' w' ⟨hu, x, Fs', he, hp⟩
    exact ⟨hu, _, x, Fs', he, hp⟩
theorem rretD {fn : Func} {X : Type} {rv : X → Value} {Ξo : X → List Xsn} {Γo : X → List Asn} (x : X) {is : List Nat} {Ξr : List Xsn} {vs : List Value} {e : Exit} (he : e = .ret ∨ e = .normal) (hr : Res P σ Ξ fn.results.toList vs) (hv : packV vs = rv x)
    (hs : takeAll is Ξ = some (Ξo x, Ξr)) (hg : Sub (Γo x) Γ) (hds : n.ds = [] := by rfl) : TrN (bodyPost P fn (Post P rv Ξo Γo M0 F0 w0)) e (St M0 F0 w0 n σ Ξ Γ) := by
  rintro a w ⟨hsl, Fs, hh⟩
  have h1 := run_results (hr.run hsl hh)
  obtain ⟨Gs, hh'⟩ := hh.drop hs hg
  rw [hv] at h1
  have hd : a.defers = [] := hsl.defers.trans hds
  rcases he with rfl | rfl
  · exact ⟨hd, _, h1, x, Gs, rfl, hh'⟩
  · exact ⟨hd, _, h1, x, Gs, rfl, hh'⟩
def dfn (g : FuncId) (cap : List Value) : Deferred := { target := .fn (.func g) cap.toArray, args := #[] }
theorem ldefer {fx : Operand} {g : FuncId} {cap : List Value} {tys : Array TypeId} {l : List Oper} (hf : ev σ fx = some (.func (.func g) #[] cap.toArray))
    (k : TrL none P ops Q (St M0 F0 w0 ⟨n.n, dfn g cap :: n.ds⟩ σ Ξ Γ) l) : TrL none P ops Q (St M0 F0 w0 n σ Ξ Γ) (⟨none, .defer ⟨.value fx, #[], tys⟩, ty, pos, af, none⟩ :: l) := by
  rintro a w ⟨hsl, Fs, hh⟩
  unfold wpListIn
  rw [if_pos (by simp [Region.wanted])]
  refine ⟨fun _ _ => trivial, ?_⟩
  have hr : (execOp a.eval ⟨none, .defer ⟨.value fx, #[], tys⟩, ty, pos, af, none⟩).run P w = .ok (.defer (dfn g cap)) w := by
    simp [execOp, resolve, Deferred.ofValue, hsl.ev hf, dfn]
  have hs : (⟨none, .defer ⟨.value fx, #[], tys⟩, ty, pos, af, none⟩ : Oper).semAt (Fr none).round a.eval = execOp a.eval ⟨none, .defer ⟨.value fx, #[], tys⟩, ty, pos, af, none⟩ := rfl
  rw [hs, hr]
  exact k _ w ⟨⟨by show dfn g cap :: a.defers = _; rw [hsl.defers], hsl.size, hsl.val⟩, Fs, hh⟩
theorem nfun {fn : Func} {R : Ending → World → Prop} {g : FuncId} {cap : List Value} {m : Nat} {ds : List Deferred} {X : Type} {Ξi Ξ' : List Xsn} {Γi : List Asn} {Ξo : X → List Xsn} {Γo : X → List Asn} {is : List Nat} {e : Exit} (he : e = .ret ∨ e = .normal)
    (hcf : ∀ args w, (callFunc g args).run P w = .ok (.enter g args) w) (hc : DCon P g cap Ξi Γi X Ξo Γo) (hs : takeAll is Ξ = some (Ξi, Ξ')) (hg : Sub Γi Γ)
    (k : ∀ x, TrN (BP P fn R) e (St M0 F0 w0 ⟨m, ds⟩ σ (Ξo x ++ Ξ') (Γo x ++ Γ))) : TrN (BP P fn R) e (St M0 F0 w0 ⟨m, dfn g cap :: ds⟩ σ Ξ Γ) := by
  rintro a w ⟨hsl, Fs, hh⟩
  have key : LeavesInM Fence.wide 0 P fn a.tmps R a.defers .returning w := by
    rw [hsl.defers]
    refine ⟨(by simp), .inr ⟨(fun h => by cases h), .func g, cap.toArray, g, cap.toArray, rfl, ?_, fun _ _ => trivial, ?_⟩⟩
    · show (invoke (.fn (.func g) cap.toArray) #[]).run P w = _
      simp [invoke, hcf]
    · obtain ⟨Gs, Hs, hp, hin, hr⟩ := hh.select hs hg.mem
      refine CallsDIn.mono (hc _ Gs w _ hin) ?_
      rintro e' u' w' ⟨rfl, v, x, Fs', rfl, hout⟩
      have h2 := k x { a with defers := ds } w' ⟨⟨rfl, hsl.size, hsl.val⟩, _, hh.back hp hr hout⟩
      rcases he with rfl | rfl
      · exact h2
      · exact h2
  rcases he with rfl | rfl
  · exact key
  · exact key
/-! a row of one's own, or one that was given up -/
def fzX {α : Type} [Rp α] (A : Option Addr) (c : Nat) (l : List α) : Xsn where
  p F M w := (∀ b, ¬ F b) ∧ (slA A l).p M w ∧ (A = none → c = 0) ∧ l.length ≤ c
  st := fun F M M' w w' h hb hm hs => ⟨h.1, (slA A l).st M M' w w' h.2.1 (fun b hlt hM => hb b hlt (.inr hM)) hm hs, h.2.2⟩
def rowIf {α : Type} [Rp α] (b : Bool) (e : TypeId) (A : Option Addr) (c : Nat) (l : List α) : Xsn := match b with
  | true => row e A c l
  | false => fzX A c l
theorem fz0 {α : Type} [Rp α] {A : Option Addr} {c : Nat} {l : List α} (hA : A = none → c = 0) (hc : l.length ≤ c) (hg : In (slA A l) Γ) {a : Act} {w : World} (h : St M0 F0 w0 n σ Ξ Γ a w) : St M0 F0 w0 n σ (fzX A c l :: Ξ) Γ a w := by
  obtain ⟨hs, Fs, hh⟩ := h
  refine ⟨hs, _, hh.push (fzX A c l) ⟨fun _ h => h, ?_, hA, hc⟩⟩
  exact hh.ga _ hg.mem
theorem freezeIf {α : Type} [Rp α] {b : Bool} {e : TypeId} {A : Option Addr} {c : Nat} {l : List α} {i : Nat} {Ξ' : List Xsn} {a : Act} {w : World} (hi : takeAt i Ξ = some (rowIf b e A c l, Ξ')) (h : St M0 F0 w0 n σ Ξ Γ a w) : St M0 F0 w0 n σ Ξ' (slA A l :: nilA (A, c) :: capA c l.length :: Γ) a w := by
  cases b with
  | true => exact freezeN hi h
  | false =>
    obtain ⟨hs, Fs, hh⟩ := h
    obtain ⟨F, Fs', h1, h2, h3⟩ := hh.ex.takeAt hi
    have hp : List.Perm Fs (F :: Fs') := takeAt_perm h1
    have hF : ∀ b, own Fs' b ↔ own Fs b := fun b => by
      rw [own_perm hp, own_cons]
      exact ⟨.inr, fun h => h.resolve_left (h2.1 b)⟩
    have hd : Fs'.Pairwise (fun F G => ∀ b, F b → ¬ G b) := (List.pairwise_cons.1 (perm_pairwise hp hh.dis)).2
    refine ⟨hs, Fs', hh.re hF hd h3 ?_⟩
    intro p hp
    simp only [List.mem_cons] at hp
    rcases hp with rfl | rfl | rfl | hp
    · exact h2.2.1
    · exact h2.2.2.1
    · exact h2.2.2.2
    · exact hh.ga p hp
end Go.Sx
end
section
set_option linter.unusedVariables false
set_option linter.unusedSimpArgs false
namespace Go.Proofs.YtppjcjlijmldiaaGreatDoor.X
open Go Go.RowKit Go.Proofs Go.Sx
open Tryz
attribute [local irreducible] slA isA box row TrL TrC TrN TrA Pu OpR
set_option maxHeartbeats 8000000
set_option maxRecDepth 100000 in
theorem c_logOrd1Y (pl p b2 b4 b7 : Nat) (s0 s1 : Value) (hs1 : s1.cells = [s1].toArray) (ho1 : s1.oneCell' = true) : DCon Tryz.prog 61 [.pointer (some ⟨b4, 0, none⟩), .pointer (some ⟨b7, 0, none⟩), .pointer (some ⟨b2, 0, none⟩)] [box b4 34 [.int .i64 0], box b7 37 [s1], box b2 25 [.pointer (some ⟨pl, 0, none⟩)], box pl 82 [s0, .pointer (some ⟨p, 0, none⟩)]] [] Unit (fun _ => [box b4 34 [.int .i64 0], box b7 37 [s1], box b2 25 [.pointer (some ⟨pl, 0, none⟩)], box pl 82 [s0, .pointer (some ⟨p, 0, none⟩)]]) (fun _ => []) := by
 refine dcon (rv := fun _ => .tuple #[]) func61 rfl ntmps61 rfl ?_
 intro M0 F0 w0
 refine k_ 6 ?_
 refine cc rfl ?_ ?_
 ·
  intro h4
  simp at h4
 ·
  intro h4
  try simp only [nrmZ] at h4
  refine k_ 1 ?_
  refine rretD (is := [0, 0, 0, 0]) () (Or.inr rfl) Res.d (rfl) rfl Ω
set_option maxRecDepth 100000 in
theorem c_logOrd1N (pl p b2 b4 b7 : Nat) (s0 s1 : Value) (hs1 : s1.cells = [s1].toArray) (ho1 : s1.oneCell' = true) : DCon Tryz.prog 61 [.pointer (some ⟨b4, 0, none⟩), .pointer (some ⟨b7, 0, none⟩), .pointer (some ⟨b2, 0, none⟩)] [box b4 34 [.int .i64 83], box b7 37 [s1], box b2 25 [.pointer (some ⟨pl, 0, none⟩)], box pl 82 [s0, .pointer (some ⟨p, 0, none⟩)]] [] Unit (fun _ => [box b4 34 [.int .i64 83], box b7 37 [s1], box b2 25 [.pointer (some ⟨pl, 0, none⟩)], box pl 82 [s1, .pointer (some ⟨p, 0, none⟩)]]) (fun _ => []) := by
 refine dcon (rv := fun _ => .tuple #[]) func61 rfl ntmps61 rfl ?_
 intro M0 F0 w0
 refine k_ 6 ?_
 refine cc rfl ?_ ?_
 ·
  intro h4
  try simp only [nrmZ] at h4
  refine k_ 3 ?_
  refine ls (op (p_nilck rfl) rfl) ?_
  refine k_ 1 ?_
  refine ls (o_st rfl sizeOf37 rfl rfl hs1 rfl (by simp [List.all_cons, ho1]) Θ Θ Θ) ?_
  refine ln ?_
  refine rretD (is := [0, 0, 0, 0]) () (Or.inr rfl) Res.d (rfl) rfl Ω
 ·
  intro h4
  simp at h4
set_option maxRecDepth 100000 in
theorem c_logOrderO (l : List Patch) (A : Option Addr) (c : Nat) (hl : l.length ≤ 2000000) (hf : ∀ q ∈ l, q.fit) (hc : l.length ≤ c) (hA : A = none → c = 0) (pl p : Nat) (ids : List Int) (B : Option Addr) (c' : Nat) (hids : ids.length ≤ 2000000) (hn : (idsP l).Nodup) : Con Tryz.prog 30 [.pointer (some ⟨pl, 0, none⟩), .slice B ids.length c'] [box pl 82 [.slice A l.length c, .pointer (some ⟨p, 0, none⟩)]] [slA A l, slA B ids] {x : (List Patch × Int) × ((Option Addr × Nat) × Bool) // x.1 = orderP l ids ∧ (x.2.2 = true → x.1.1 = l)} (fun x => .int .i64 x.1.1.2) (fun x => if x.1.2.2 = true then [box pl 82 [.slice A l.length c, .pointer (some ⟨p, 0, none⟩)]] else [row 55 x.1.2.1.1 x.1.2.1.2 x.1.1.1, box pl 82 [.slice x.1.2.1.1 x.1.1.1.length x.1.2.1.2, .pointer (some ⟨p, 0, none⟩)]]) (fun _ => []) := by
 refine con func30 rfl ntmps30 rfl ?_
 intro M0 F0 w0
 refine k_ 2 ?_
 refine ls (o_box rfl rfl rfl) ?_
 refine le ?_; intro b2
 refine ls (o_alloc zeroValue34 rfl rfl) ?_
 refine le ?_; intro b4
 refine k_ 3 ?_
 refine cd [1, 2, 4, 5, 6] [(3, b2, 0, _)] TryzX.mixed (TOk.t (isBoxS Θ (k := 1) Δ) TOk.d) ?_
 refine u_ 0 1 ?_
 refine u_ 3 1 ?_
 refine df 1 Ψ ?_
 refine doR rfl (o_call (is := []) call59 (c_vals ids B c') rfl rfl Ω rfl) (TOk.t (isBoxE fun _ => isBoxS Θ (k := 1) Δ) TOk.d) ?_
 refine ea ?_; intro b15
 refine df 2 Ψ ?_
 refine doR rfl (o_call (is := [0]) call58 (c_sortedI ids B c' hids b15) rfl rfl Ω rfl) (TOk.t (isBoxE fun _ => isBoxS Θ (k := 1) Δ) TOk.d) ?_
 refine ea ?_; rintro ⟨A16, c16⟩
 refine amono (fun a w h => Go.Sx.freeze (i := 0) rfl h) ?_
 refine df 4 Ψ ?_
 refine doR rfl (o_call (is := [2]) call22 (c_logIdsO l A c hl pl p) rfl rfl Ω rfl) tX ?_
 refine ea ?_; rintro ⟨A18, c18⟩
 refine amono (fun a w h => Go.Sx.freeze (i := 0) rfl h) ?_
 refine df 5 Ψ ?_
 refine doR rfl (o_call (is := []) call59 (c_vals (idsP l) A18 c18) rfl rfl Ω rfl) tX ?_
 refine ea ?_; intro b19
 refine df 6 Ψ ?_
 refine doR rfl (o_call (is := [0]) call58 (c_sortedI (idsP l) A18 c18 (by rw [idsP_len]; exact hl) b19) rfl rfl Ω rfl) tX ?_
 refine ea ?_; rintro ⟨A20, c20⟩
 refine amono (fun a w h => Go.Sx.freeze (i := 0) rfl h) ?_
 refine u_ 7 2 ?_
 refine dn Ψ ?_
 refine k_ 6 ?_
 refine lC [] call60 (c_EqualI (sortI ids) (sortI (idsP l)) _ _ _ _ (by rw [sortI_length]; exact hids)) ?_; intro x23
 refine k_ 3 ?_
 refine cc rfl ?_ ?_
 ·
  intro h24
  have hp : ¬ ids.Perm (idsP l) := by have h := h24; simp [sortI_eq] at h; exact h
  refine k_ 7 ?_
  refine rret (is := [0]) ⟨((l, 1), ((A, c), true)), (orderP_arg hp).symm, fun _ => rfl⟩ (Or.inl rfl) (Res.c1 rfl isAgg34 Θ Res.d) (rfl) rfl Ω
 ·
  intro h24
  have hp : ids.Perm (idsP l) := by have h := h24; simp [sortI_eq] at h; exact h
  refine k_ 5 ?_
  refine ls (op (p_nilck rfl) rfl) ?_
  refine k_ 2 ?_
  refine ls (o_alloc zeroValue37 rfl rfl) ?_
  refine le ?_; intro b7
  refine k_ 5 ?_
  refine ls (op (p_mkf rfl) rfl) ?_
  refine ldefer rfl ?_
  refine k_ 4 ?_
  refine cmono (fun a w h => fz0 hA hc (by repeat (first | exact In.z | apply In.s)) h) ?_
  refine k_ 7 ?_
  refine cl (ι := {q : (Nat × List Patch) × (Option Addr × Nat) × Bool // q.1.1 ≤ ids.length ∧ OI l ids q.1.1 q.1.2 ∧ (q.2.2 = false → l = q.1.2 ∧ A = q.2.1.1 ∧ c = q.2.1.2)}) (fun i => St M0 F0 w0 ⟨81, [dfn 61 [.pointer (some ⟨b4, 0, none⟩), .pointer (some ⟨b7, 0, none⟩), .pointer (some ⟨b2, 0, none⟩)]]⟩ [(2, .pointer (some ⟨b2, 0, none⟩)), (4, .pointer (some ⟨b4, 0, none⟩)), (7, .pointer (some ⟨b7, 0, none⟩)), (30, .slice B ids.length c'), (31, .int .i64 (ids.length : Int)), (32, .int .i64 ((i.1.1.1 : Nat) : Int))] [rowIf (i.1.2.2) 55 (i.1.2.1.1) (i.1.2.1.2) (i.1.1.2), box b7 37 [.slice A l.length c], box b4 34 [.int .i64 0], box b2 25 [.pointer (some ⟨pl, 0, none⟩)], box pl 82 [.slice (i.1.2.1.1) (i.1.1.2).length (i.1.2.1.2), .pointer (some ⟨p, 0, none⟩)]] [slA B ids]) (fun i => ids.length - i.1.1.1) ⟨((0, l), ((A, c), false)), Nat.zero_le _, OI.start l ids, fun _ => ⟨rfl, rfl, rfl⟩⟩ (wK [0, 0, 1, 1, 0]) ?_
  rintro ⟨⟨⟨k, m⟩, ⟨⟨Am, cm⟩, fb⟩⟩, hk, hI, hfb⟩
  refine cmono (S' := St M0 F0 w0 ⟨81, [dfn 61 [.pointer (some ⟨b4, 0, none⟩), .pointer (some ⟨b7, 0, none⟩), .pointer (some ⟨b2, 0, none⟩)]]⟩ [(2, .pointer (some ⟨b2, 0, none⟩)), (4, .pointer (some ⟨b4, 0, none⟩)), (7, .pointer (some ⟨b7, 0, none⟩)), (30, .slice B ids.length c'), (31, .int .i64 (ids.length : Int)), (32, .int .i64 ((k : Nat) : Int))] [rowIf (fb) 55 (Am) (cm) (m), box b7 37 [.slice A l.length c], box b4 34 [.int .i64 0], box b2 25 [.pointer (some ⟨pl, 0, none⟩)], box pl 82 [.slice (Am) (m).length (cm), .pointer (some ⟨p, 0, none⟩)]] [slA B ids]) Ħ ?_
  refine k_ 6 ?_
  refine cc rfl ?_ ?_
  ·
   intro h33
   dsimp only at hk hI hfb
   try simp only [nrmZ] at h33
   have hk1 : k < ids.length := by omega
   have hml := hI.len
   have hmf := hI.swp.fit hf
   obtain ⟨j, hj, hkj, hat, hid, hnin⟩ := hI.at hp hn hk1
   have hsl : ((m.drop k).take (j - k)).length = j - k := by rw [List.length_take, List.length_drop]; omega
   have hsf : ∀ q ∈ ((m.drop k).take (j - k)), q.fit := fun q hq => hmf q (List.mem_of_mem_drop (List.mem_of_mem_take hq))
   have hDl : (m.drop (j + 1)).length = m.length - (j + 1) := List.length_drop
   have hTl : (m.take k).length = k := by rw [List.length_take]; omega
   refine k_ 5 ?_
   refine elC (A := B) (l := ids) Θ k (List.getElem?_eq_getElem (l := ids) hk1) ?_; rintro zbp zop zyp hAp
   refine k_ 2 ?_
   refine ls (op (p_ia k hAp hk1 rfl underlying28 sizeOf3 rfl rfl) rfl) ?_
   refine ls (o_ldi isAgg3 rfl Θ 0 rfl Δ rfl) ?_
   refine k_ 5 ?_
   refine cmono (fun a w h => freezeIf (i := 0) rfl h) ?_
   refine cpure (St.cap (m := m.length) (c := cm) Θ) ?_
   intro hcm
   refine nilP (y := (Am, cm)) Θ (fun hAm => ?_)
   refine k_ 3 ?_
   refine lC [3] call53 (c_logAtO m Am cm (by omega) pl p ids[k]) ?_; intro x39
   refine k_ 4 ?_
   refine cmono (fun a w h => subS (A := Am) (l := m) (l' := ((m.drop k).take (j - k))) (c := cm) k j (by repeat (first | exact In.z | apply In.s)) hkj (by omega) hcm rfl h) ?_
   refine elC (A := Am) (l := m) Θ j (List.getElem?_eq_getElem (l := m) hj) ?_; rintro zbq zoq zyq hAq
   refine cutC (S' := fun a w => ∃ (b11 : Nat) (q1 : Patch) (rest1 : List Patch) (b3 : Bool) (yq1 : Rp.Lay Patch) (A1 : Option Addr) (c1 : Nat) (hr : (q1, rest1, b3) = ppast ((m.drop k).take (j - k)) m[j]), St M0 F0 w0 ⟨81, [dfn 61 [.pointer (some ⟨b4, 0, none⟩), .pointer (some ⟨b7, 0, none⟩), .pointer (some ⟨b2, 0, none⟩)]]⟩ [(2, .pointer (some ⟨b2, 0, none⟩)), (4, .pointer (some ⟨b4, 0, none⟩)), (7, .pointer (some ⟨b7, 0, none⟩)), (8, .int .i64 (k : Int)), (10, .int .i64 (atP m ids[k])), (11, .pointer (some ⟨b11, 0, none⟩)), (12, .slice A1 rest1.length c1), (13, .bool b3), (30, .slice B ids.length c'), (31, .int .i64 (ids.length : Int)), (32, .int .i64 (k : Int))] [box b11 55 (Rp.enc q1 yq1), row 55 A1 c1 rest1, box pl 82 [.slice Am m.length cm, .pointer (some ⟨p, 0, none⟩)], box b7 37 [.slice A l.length c], box b4 34 [.int .i64 0], box b2 25 [.pointer (some ⟨pl, 0, none⟩)]] [slA yq1.1.1 q1.deps, slA yq1.2.1 q1.l, capA yq1.2.2 q1.l.length, slA Am m, slA B ids] a w) ?_ ?_
   ·
    refine cd [14, 19, 20] [(0, b2, 0, _), (3, pl, 0, _), (7, b2, 0, _), (10, pl, 0, _), (13, zbq, zoq + j * Rp.size Patch, _)] TryzX.mixed (TOk.t (isBoxS Θ (k := 1) Δ) (TOk.t (isBoxS Θ (k := 1) Δ) (TOk.t (isBoxS Θ (k := 1) Δ) (TOk.t (isBoxS Θ (k := 1) Δ) (TOk.t (isInS Θ (k := 0) rfl (z := 4) Δ) TOk.d))))) ?_
    refine u_ 0 1 ?_
    refine tk 1 rfl Ψ Υ gnone (TTany _) (p_nilck rfl) rfl ?_
    refine u_ 2 4 ?_
    refine tk 6 rfl Ψ Υ gnone (TTany _) (p_sl k j hkj (by omega) rfl hat underlying37 sizeOf55 rfl rfl rfl) rfl ?_
    refine fixA (slen (m' := ((m.drop k).take (j - k)).length) hsl.symm) ?_
    refine u_ 7 1 ?_
    refine tk 8 rfl Ψ Υ gnone (TTany _) (p_nilck rfl) rfl ?_
    refine u_ 9 3 ?_
    refine tk 12 rfl Ψ Υ gnone (TTany _) (p_ia j hAq hj hat underlying37 sizeOf55 rfl rfl) rfl ?_
    refine u_ 13 1 ?_
    refine dall (is := [14, 19]) Ψ rfl ?_
    intro i hi; simp only [List.mem_cons, List.mem_nil_iff, or_false] at hi; rcases hi with rfl | rfl
    ·
     refine doR rfl (o_call (is := []) call62 (c_nPastD ((m.drop k).take (j - k)) (if cm = k then Am else Am.map (·.add (k * Rp.size Patch))) (cm - k) (by omega) hsf m[j] zyq (hmf _ (List.getElem_mem hj))) rfl rfl Ω rfl) tX ?_
     refine ea ?_; rintro ⟨⟨⟨q1, rest1, b3⟩, ⟨yq1, ⟨A1, c1⟩⟩⟩, hr⟩
     dsimp only at hr
     refine u_ 15 4 ?_
     refine df 19 Ψ ?_
     refine doR rfl (o_alloc zeroValue55 rfl rfl) tX ?_
     refine ea ?_; intro b11
     refine df 20 Ψ ?_
     refine doR rfl (o_st rfl sizeOf55 rfl rfl rfl rfl rfl Θ Θ Θ) tX ?_
     refine u_ 21 2 ?_
     refine dn Ψ (nmid (fun a w h => by first | exact ⟨b11, q1, rest1, b3, yq1, A1, c1, hr, wL [0, 0, 0, 0, 0, 0] h⟩ | exact ⟨b11, q1, rest1, b3, yq1, A1, c1, hr, wL [1, 0, 0, 0, 0, 0] h⟩))
    ·
     refine doR rfl (o_alloc zeroValue55 rfl rfl) (TOk.t (isBoxE fun _ => isBoxS Θ (k := 1) Δ) (TOk.t (isBoxE fun _ => isBoxS Θ (k := 1) Δ) (TOk.t (isBoxE fun _ => isBoxS Θ (k := 1) Δ) (TOk.t (isBoxE fun _ => isBoxS Θ (k := 1) Δ) (TOk.t (isBoxE fun _ => isInS Θ (k := 0) rfl (z := 4) Δ) TOk.d))))) ?_
     refine ea ?_; intro b11
     refine df 14 Ψ ?_
     refine doR rfl (o_call (is := []) call62 (c_nPastD ((m.drop k).take (j - k)) (if cm = k then Am else Am.map (·.add (k * Rp.size Patch))) (cm - k) (by omega) hsf m[j] zyq (hmf _ (List.getElem_mem hj))) rfl rfl Ω rfl) tX ?_
     refine ea ?_; rintro ⟨⟨⟨q1, rest1, b3⟩, ⟨yq1, ⟨A1, c1⟩⟩⟩, hr⟩
     dsimp only at hr
     refine u_ 15 4 ?_
     refine df 20 Ψ ?_
     refine doR rfl (o_st rfl sizeOf55 rfl rfl rfl rfl rfl Θ Θ Θ) tX ?_
     refine u_ 21 2 ?_
     refine dn Ψ (nmid (fun a w h => by first | exact ⟨b11, q1, rest1, b3, yq1, A1, c1, hr, wL [0, 0, 0, 0, 0, 0] h⟩ | exact ⟨b11, q1, rest1, b3, yq1, A1, c1, hr, wL [1, 0, 0, 0, 0, 0] h⟩))
   ·
    refine nex fun b11 => nex fun q1 => nex fun rest1 => nex fun b3 => nex fun yq1 => nex fun A1 => nex fun c1 => nex fun hr => ?_
    refine k_ 8 ?_
    refine cc rfl ?_ ?_
    ·
     intro h60
     obtain rfl : false = b3 := by cases b3 <;> first | rfl | (simp at h60)
     refine k_ 7 ?_
     refine nfun (is := [4, 3, 3, 2]) (Or.inl rfl) call61 (c_logOrd1N pl p b2 b4 b7 (.slice Am m.length cm) (.slice A l.length c) rfl rfl) rfl Sub.d ?_; intro u
     refine rret (is := [3]) ⟨((l, 83), ((A, c), true)), (orderP_none hp (hI.stop hk1 hj hkj hid hnin hr)).symm, fun _ => rfl⟩ (Or.inl rfl) (Res.c1 rfl isAgg34 Θ Res.d) (rfl) rfl Ω
    ·
     intro h60
     obtain rfl : true = b3 := by cases b3 <;> first | rfl | (simp at h60)
     have hok := ppast_ok hr hsf (hmf _ (List.getElem_mem hj))
     refine k_ 2 ?_
     refine cmono (fun a w h => freezeN (i := 1) rfl h) ?_
     refine cmono (fun a w h => subS (A := Am) (l := m) (l' := m.take k) (c := cm) 0 k (by repeat (first | exact In.z | apply In.s)) (by omega) (by omega) hcm (by simp) h) ?_
     refine cmono (fun a w h => nilQ (y := ((if cm = 0 then Am else Am.map (·.add (0 * Rp.size Patch))), cm - 0)) (fun e => sub_nil hAm e) h) ?_
     refine cmono (fun a w h => subS (A := Am) (l := m) (l' := m.drop (j + 1)) (c := cm) (j + 1) m.length (by repeat (first | exact In.z | apply In.s)) (by omega) (Nat.le_refl _) hcm (by rw [List.take_of_length_le (by simp)]) h) ?_
     refine cmono (fun a w h => nilQ (y := ((if cm = (j + 1) then Am else Am.map (·.add ((j + 1) * Rp.size Patch))), cm - (j + 1))) (fun e => sub_nil hAm e) h) ?_
     refine cd [8, 17, 18] [(0, b2, 0, _), (1, b2, 0, _), (4, pl, 0, _), (7, b11, 0, _), (10, b2, 0, _), (13, pl, 0, _)] TryzX.mixed (TOk.t (isBoxS Θ (k := 1) Δ) (TOk.t (isBoxS Θ (k := 1) Δ) (TOk.t (isBoxS Θ (k := 1) Δ) (TOk.t (isBoxS Θ (k := 4) Δ) (TOk.t (isBoxS Θ (k := 1) Δ) (TOk.t (isBoxS Θ (k := 1) Δ) TOk.d)))))) ?_
     refine u_ 0 2 ?_
     refine tk 2 rfl Ψ Υ gnone (TTany _) (p_nilck rfl) rfl ?_
     refine u_ 3 3 ?_
     refine tk 6 rfl Ψ Υ gnone (TTany _) (p_slh k (by omega) rfl underlying37 sizeOf55 rfl rfl) rfl ?_
     refine fixA (slen (m' := (m.take k).length) (by omega)) ?_
     refine u_ 7 1 ?_
     refine u_ 9 2 ?_
     refine tk 11 rfl Ψ Υ gnone (TTany _) (p_nilck rfl) rfl ?_
     refine u_ 12 4 ?_
     refine tk 16 rfl Ψ Υ gnone (TTany _) (p_sll (j + 1) (by omega) hcm (by omega) underlying37 sizeOf55 rfl rfl) rfl ?_
     refine fixA (slen (m' := (m.drop (j + 1)).length) (by omega)) ?_
     refine df 8 Ψ ?_
     refine doR rfl (o_bsl [q1] underlying37 sizeOf55 zeroValue55 rfl (Enum.t Enum.d) (RV.t yq1 rfl Ω RV.d) rfl (by decide) (by decide) rfl) (TOk.t (isBoxE fun _ => isBoxS Θ (k := 1) Δ) (TOk.t (isBoxE fun _ => isBoxS Θ (k := 1) Δ) (TOk.t (isBoxE fun _ => isBoxS Θ (k := 1) Δ) (TOk.x Ψ (TOk.t (isBoxE fun _ => isBoxS Θ (k := 1) Δ) (TOk.t (isBoxE fun _ => isBoxS Θ (k := 1) Δ) TOk.d)))))) ?_
     refine ea ?_; intro b69
     refine amono (fun a w h => freezeN (i := 0) rfl h) ?_
     refine df 17 Ψ ?_
     refine doR rfl (o_bsl [m.take k, [q1], rest1, m.drop (j + 1)] underlying157 sizeOf37 zeroValue37 rfl (Enum.t (Enum.t (Enum.t (Enum.t Enum.d)))) (RV.t ((if cm = 0 then Am else Am.map (·.add (0 * Rp.size Patch))), cm - 0) rfl Ω (RV.t (some ⟨b69, 0, none⟩, 1) rfl Ω (RV.t (A1, c1) rfl Ω (RV.t ((if cm = (j + 1) then Am else Am.map (·.add ((j + 1) * Rp.size Patch))), cm - (j + 1)) rfl Ω RV.d)))) rfl (by decide) (by decide) rfl) (TOk.t (isBoxE fun _ => isBoxS Θ (k := 1) Δ) (TOk.x Ψ (TOk.x Ψ (TOk.x Ψ (TOk.x Ψ (TOk.x Ψ TOk.d)))))) ?_
     refine ea ?_; intro b78
     refine amono (fun a w h => Go.Sx.freeze (i := 0) rfl h) ?_
     refine df 18 Ψ ?_
     refine doR rfl (o_call (is := [1]) call63 (c_logPut [m.take k, [q1], rest1, m.drop (j + 1)] (some ⟨b78, 0, none⟩) 4 (by simp) (by simp only [List.flatten_cons, List.flatten_nil, List.length_append, List.length_cons, List.length_nil]; omega) pl p (.slice Am m.length cm)) rfl rfl Ω rfl) tX ?_
     refine ea ?_; rintro ⟨A79, c79⟩
     refine dn Ψ ?_
     refine k_ 6 ?_
     refine nnext ⟨((k + 1, [m.take k, [q1], rest1, m.drop (j + 1)].flatten), ((A79, c79), true)), hk1, (by have h := hI.step hk1 hj hkj hid hnin hr; simpa using h), (fun h => by cases h)⟩ (by dsimp only; omega) (wK [1, 2, 2, 2, 0])
  ·
   intro h33
   dsimp only at hk hI hfb
   try simp only [nrmZ] at h33
   have hd := orderP_some hp (hI.done (by omega))
   refine k_ 6 ?_
   cases fb
   ·
    obtain ⟨rfl, rfl, rfl⟩ := hfb rfl
    refine k_ 6 ?_
    refine nfun (is := [2, 1, 1, 1]) (Or.inl rfl) call61 (c_logOrd1Y pl p b2 b4 b7 (.slice A l.length c) (.slice A l.length c) rfl rfl) rfl Sub.d ?_; intro u
    refine rret (is := [3]) ⟨((l, 0), ((A, c), true)), hd.symm, fun _ => rfl⟩ (Or.inl rfl) (Res.c1 rfl isAgg34 Θ Res.d) (rfl) rfl Ω
   ·
    refine k_ 6 ?_
    refine nfun (is := [2, 1, 1, 1]) (Or.inl rfl) call61 (c_logOrd1Y pl p b2 b4 b7 (.slice Am m.length cm) (.slice A l.length c) rfl rfl) rfl Sub.d ?_; intro u
    refine rret (is := [4, 3]) ⟨((m, 0), ((Am, cm), false)), hd.symm, fun h => by cases h⟩ (Or.inl rfl) (Res.c1 rfl isAgg34 Θ Res.d) (rfl) rfl Ω
theorem c_logOrder (l : List Patch) (A : Option Addr) (c : Nat) (hl : l.length ≤ 2000000) (hf : ∀ q ∈ l, q.fit) (hc : l.length ≤ c) (hA : A = none → c = 0) (pl p : Nat) (ids : List Int) (B : Option Addr) (c' : Nat) (hids : ids.length ≤ 2000000) (hn : (idsP l).Nodup) : Con Tryz.prog 30 [.pointer (some ⟨pl, 0, none⟩), .slice B ids.length c'] [row 55 A c l, box pl 82 [.slice A l.length c, .pointer (some ⟨p, 0, none⟩)]] [slA B ids] {x : (List Patch × Int) × (Option Addr × Nat) // x.1 = orderP l ids} (fun x => .int .i64 x.1.1.2) (fun x => [row 55 x.1.2.1 x.1.2.2 x.1.1.1, box pl 82 [.slice x.1.2.1 x.1.1.1.length x.1.2.2, .pointer (some ⟨p, 0, none⟩)]]) (fun _ => []) := by
 intro M0 Fs w hh
 refine ((borrowC (fun x => x.1.2.2) (c_logOrderO l A c hl hf hc hA pl p ids B c' hids hn) ?_) M0 Fs w hh).mono ?_
 ·
  intro x hx
  try dsimp only
  rw [if_pos hx]
  exact ⟨fun z hz => by rw [List.mem_singleton.1 hz]; exact box_free, rfl⟩
 ·
  rintro e w' ⟨⟨⟨x, ⟨y, fb⟩⟩, h1, h2⟩, Fs', rfl, h⟩
  cases fb with
  | false => exact ⟨⟨(x, y), h1⟩, Fs', rfl, h⟩
  | true =>
   obtain ⟨x1, x2⟩ := x
   obtain rfl : x1 = l := h2 rfl
   exact ⟨⟨((x1, x2), (A, c)), h1⟩, Fs', rfl, h⟩
end Go.Proofs.YtppjcjlijmldiaaGreatDoor.X
end
section
set_option linter.unusedVariables false
set_option linter.unusedSimpArgs false
namespace Go.Sx
open Go Go.RowKit
variable {P : Program} {M0 F0 : Nat → Prop} {w0 : World} {n : Nm} {σ : List (Nat × Value)} {Ξ : List Xsn} {Γ : List Asn}
theorem rowFact {α : Type} [Rp α] {e : TypeId} {A : Option Addr} {c : Nat} {l : List α} {i : Nat} (hi : At (row e A c l) i Ξ) : ∀ a w, St M0 F0 w0 n σ Ξ Γ a w → (A = none → c = 0) ∧ l.length ≤ c := by
  intro a w h
  refine ⟨?_, rowLe hi h⟩
  obtain ⟨_, Fs, hh⟩ := h
  obtain ⟨F, _, xs, ho, _⟩ := hh.ex.at hi.get
  rcases ho.2 with ⟨hnil, _⟩ | ⟨g, cap, cur, hv, _⟩
  · obtain ⟨_, _, rfl⟩ : A = none ∧ l.length = 0 ∧ c = 0 := by simpa using hnil
    intro _; rfl
  · obtain ⟨rfl, _⟩ : A = some ⟨g, 0, none⟩ ∧ c = cap := by simpa using hv
    intro h; cases h
theorem trEq {b i : Nat} {T T' : List File} {Ξ' : List Xsn} {a : Act} {w : World} (hi : At (tr b T) i Ξ) (he : T = T') (hs : SetAt (tr b T') i Ξ Ξ') (h : St M0 F0 w0 n σ Ξ Γ a w) : St M0 F0 w0 n σ Ξ' Γ a w := by
  subst he
  have e : Ξ' = Ξ := by
    rw [hs.eq.1]
    have h1 := hi.get
    obtain ⟨h2, h3⟩ := List.getElem?_eq_some_iff.1 h1
    rw [← h3]; exact List.set_getElem_self h2
  rw [e]; exact h
end Go.Sx
end
section
set_option linter.unusedVariables false
set_option linter.unusedSimpArgs false
namespace Go.Proofs.YtppjcjlijmldiaaGreatDoor.X
open Go Go.RowKit Go.Proofs Go.Sx
open Tryz
attribute [local irreducible] slA isA box row TrL TrC TrN TrA Pu OpR
set_option maxHeartbeats 8000000
theorem sameP_yes {l m mo : List Patch} {e : Int} (ho : (mo, e) = orderP m (idsP l)) (he : (orderP m (idsP l)).2 = 0) : sameP l m = decide (l = mo) := by
 unfold sameP; rw [decide_eq_true he, ← ho]; rfl
theorem sameP_no {l m : List Patch} (he : ¬ (orderP m (idsP l)).2 = 0) : sameP l m = false := by
 unfold sameP; rw [decide_eq_false he]; rfl
set_option maxRecDepth 100000 in
theorem c_EqualFuncQ (l m : List Patch) (A B : Option Addr) (c c' : Nat) (hl : l.length ≤ 2000000) (hf : ∀ q ∈ l, q.fit) (hfm : ∀ q ∈ m, q.fit) : Con Tryz.prog 73 [.slice A l.length c, .slice B m.length c', .func (.func 74) #[] #[]] [] [slA A l, slA B m] Unit (fun _ => .bool (decide (l = m))) (fun _ => []) (fun _ => []) := by
 refine con func73 rfl ntmps73 rfl ?_
 intro M0 F0 w0
 refine k_ 15 ?_
 refine cc rfl ?_ ?_
 ·
  intro h14
  try simp only [nrmZ] at h14
  refine k_ 7 ?_
  refine rret (is := []) () (Or.inl rfl) (Res.t rfl Res.d) ?_ rfl Ω
  simp [packV]; intro e; rw [e] at h14; exact h14 rfl
 ·
  intro h14
  try simp only [nrmZ] at h14
  refine k_ 11 ?_
  refine cl (ι := {k : Nat // k ≤ l.length ∧ l.take k = m.take k}) (fun i => St M0 F0 w0 32 [(0, .slice A l.length c), (1, .slice B m.length c'), (2, .func (.func 74) #[] #[]), (15, .slice A l.length c), (16, .int .i64 (l.length : Int)), (17, .int .i64 (i.1 : Int))] [] [slA A l, slA B m]) (fun i => l.length - i.1) ⟨0, by simp⟩ (wk0 Φ Ω) ?_
  rintro ⟨k, hk, hkk⟩
  refine cmono (S' := St M0 F0 w0 32 [(0, .slice A l.length c), (1, .slice B m.length c'), (2, .func (.func 74) #[] #[]), (15, .slice A l.length c), (16, .int .i64 (l.length : Int)), (17, .int .i64 (k : Int))] [] [slA A l, slA B m]) Ħ ?_
  refine k_ 6 ?_
  refine cc rfl ?_ ?_
  ·
   intro h18
   try simp only [nrmZ] at h18
   have hk1 : k < l.length := by omega
   have hk2 : k < m.length := by omega
   refine k_ 5 ?_
   refine elC Θ k (List.getElem?_eq_getElem (l := l) hk1) ?_; rintro zbp zop zyp hAp
   refine k_ 2 ?_
   refine ls (op (p_ia k hAp hk1 rfl underlying37 sizeOf55 rfl rfl) rfl) ?_
   refine ls (o_ldj isAgg55 sizeOf55 rfl Θ 0 rfl Δ rfl) ?_
   refine ls (o_alloc zeroValue55 rfl rfl) ?_
   refine le ?_; intro b8
   refine k_ 5 ?_
   refine elC Θ k (List.getElem?_eq_getElem (l := m) hk2) ?_; rintro zbq zoq zyq hAq
   refine k_ 3 ?_
   refine ls (op (p_ia k hAq hk2 rfl underlying37 sizeOf55 rfl rfl) rfl) ?_
   refine ls (o_ldj isAgg55 sizeOf55 rfl Θ 0 rfl Δ rfl) ?_
   refine ls (o_alloc zeroValue55 rfl rfl) ?_
   refine le ?_; intro b9
   refine k_ 6 ?_
   refine ls (o_ldw isAgg55 sizeOf55 rfl Θ (by rfl) rfl) ?_
   refine ls (o_ldw isAgg55 sizeOf55 rfl Θ (by rfl) rfl) ?_
   refine ls (o_callv (is := []) rfl call74 (c_nSame l[k] m[k] zyp zyq (hf _ (List.getElem_mem hk1)) (hfm _ (List.getElem_mem hk2))) rfl rfl rfl Ω rfl) ?_
   refine le ?_; intro x29
   refine k_ 3 ?_
   refine cc rfl ?_ ?_
   ·
    intro h30
    try simp only [nrmZ] at h30
    refine k_ 7 ?_
    refine rret (is := []) () (Or.inl rfl) (Res.t rfl Res.d) ?_ rfl Ω
    simp [packV]; rintro rfl; exact h30 rfl
   ·
    intro h30
    try simp only [nrmZ] at h30
    refine k_ 7 ?_
    refine nnext ⟨k + 1, hk1, by rw [List.take_succ_eq_append_getElem hk1, List.take_succ_eq_append_getElem hk2, hkk, h30]⟩ (by dsimp only; omega) (wK [])
  ·
   intro h18
   try simp only [nrmZ] at h18
   refine k_ 12 ?_
   refine rret (is := []) () (Or.inl rfl) (Res.t rfl Res.d) ?_ rfl Ω
   simp [packV]; have := List.take_of_length_le (l := l) (i := k) (by omega); have := List.take_of_length_le (l := m) (i := k) (by omega); simp_all
set_option maxRecDepth 100000 in
theorem c_logSame (l m : List Patch) (A B : Option Addr) (c c' : Nat) (hl : l.length ≤ 2000000) (hf : ∀ q ∈ l, q.fit) (hlm : m.length ≤ 2000000) (hfm : ∀ q ∈ m, q.fit) (hnm : (idsP m).Nodup) (pl p pm p' b' : Nat) (T : List File) : Con Tryz.prog 37 [.pointer (some ⟨pl, 0, none⟩), .pointer (some ⟨pm, 0, none⟩)] [box pl 82 [.slice A l.length c, .pointer (some ⟨p, 0, none⟩)], row 55 A c l, box pm 82 [.slice B m.length c', .pointer (some ⟨p', 0, none⟩)], row 55 B c' m, box p' 119 [.map (some b')], tr b' T] [] Unit (fun _ => .bool (sameP l m)) (fun _ => [box pl 82 [.slice A l.length c, .pointer (some ⟨p, 0, none⟩)], row 55 A c l, box pm 82 [.slice B m.length c', .pointer (some ⟨p', 0, none⟩)], row 55 B c' m, box p' 119 [.map (some b')], tr b' T]) (fun _ => []) := by
 refine con func37 rfl ntmps37 rfl ?_
 intro M0 F0 w0
 refine k_ 8 ?_
 refine lC [2, 2, 2, 2] call35 (c_logCopy m B c' hlm hfm pm p' b' T) ?_; rintro ⟨⟨A7, c7⟩, ⟨q7, p7, b7⟩⟩
 refine k_ 4 ?_
 refine cpure (rowFact (α := Patch) (A := A7) (c := c7) (l := m) Θ) ?_
 rintro ⟨hA7, hc7⟩
 by_cases he : (orderP m (idsP l)).2 = 0
 ·
  refine cd [2, 3, 13, 14] [(9, pl, 0, _)] TryzX.mixed (TOk.t (isBoxS Θ (k := 1) Δ) TOk.d) ?_
  refine u_ 0 2 ?_
  refine df 2 Ψ ?_
  refine doR rfl (o_call (is := [8, 8]) call22 (c_logIdsW l A c hl pl p) rfl rfl Ω rfl) (TOk.t (isBoxE fun _ => isBoxS Θ (k := 1) Δ) TOk.d) ?_
  refine ea ?_; rintro ⟨A10, c10⟩
  refine amono (fun a w h => Go.Sx.freeze (i := 0) rfl h) ?_
  refine df 3 Ψ ?_
  refine doR rfl (o_call (is := [3, 2]) call30 (c_logOrder m A7 c7 hlm hfm hc7 hA7 q7 p7 (idsP l) A10 c10 (by rw [idsP_len]; exact hl) hnm) rfl rfl Ω rfl) (TOk.t (isBoxE fun _ => isBoxS Θ (k := 1) Δ) TOk.d) ?_
  refine ea ?_; rintro ⟨⟨⟨mo, e11⟩, ⟨A11, c11⟩⟩, ho⟩
  dsimp only at ho
  have he11 : e11 = (orderP m (idsP l)).2 := congrArg Prod.snd ho
  have hmo : ∀ q ∈ mo, q.fit := by have h := (orderP_swp m (idsP l)).fit hfm; rw [← ho] at h; exact h
  refine amono (fun a w h => freezeN (i := 0) rfl h) ?_
  refine u_ 4 1 ?_
  refine fixA (congrArg Value.bool (decide_eq_true (he11.trans he))) ?_
  refine u_ 5 2 ?_
  refine tk 7 rfl Ψ Υ (gyes rfl rfl rfl rfl) (TTany _) (gpu (p_nilck rfl)) rfl ?_
  refine u_ 8 1 ?_
  refine tk 9 rfl Ψ Υ (gyes rfl rfl rfl rfl) (TTat (List.Mem.head _)) (gpu (p_ld isAgg37 rfl)) rfl ?_
  refine u_ 10 1 ?_
  refine tk 11 rfl Ψ Υ (gyes rfl rfl rfl rfl) (TTany _) (gpu (p_nilck rfl)) rfl ?_
  refine u_ 12 1 ?_
  refine df 13 Ψ ?_
  refine doG rfl rfl rfl rfl rfl (o_ld isAgg37 rfl Θ Θ rfl) (TOk.t (isBoxS Θ (k := 1) Δ) TOk.d) ?_
  refine df 14 Ψ ?_
  refine doG rfl rfl rfl rfl rfl (o_call (is := [2]) call73 (borrow (c_EqualFuncQ l mo A A11 c c11 hl hf hmo) (fun _ z hz => by cases hz)) rfl rfl Ω rfl) tX ?_
  refine ea ?_; intro u22
  refine u_ 15 2 ?_
  refine dn Ψ ?_
  refine k_ 3 ?_
  refine rret (is := [2, 0, 3, 3, 3, 3]) () (Or.inl rfl) (Res.t rfl Res.d) ?_ rfl Ω
  rw [sameP_yes ho he]; rfl
 ·
  refine cd [2, 3] [] TryzX.mixed TOk.d ?_
  refine u_ 0 2 ?_
  refine df 2 Ψ ?_
  refine doR rfl (o_call (is := [8, 8]) call22 (c_logIdsW l A c hl pl p) rfl rfl Ω rfl) TOk.d ?_
  refine ea ?_; rintro ⟨A10, c10⟩
  refine amono (fun a w h => Go.Sx.freeze (i := 0) rfl h) ?_
  refine df 3 Ψ ?_
  refine doR rfl (o_call (is := [3, 2]) call30 (c_logOrder m A7 c7 hlm hfm hc7 hA7 q7 p7 (idsP l) A10 c10 (by rw [idsP_len]; exact hl) hnm) rfl rfl Ω rfl) TOk.d ?_
  refine ea ?_; rintro ⟨⟨⟨mo, e11⟩, ⟨A11, c11⟩⟩, ho⟩
  dsimp only at ho
  have he11 : e11 = (orderP m (idsP l)).2 := congrArg Prod.snd ho
  have hmo : ∀ q ∈ mo, q.fit := by have h := (orderP_swp m (idsP l)).fit hfm; rw [← ho] at h; exact h
  refine amono (fun a w h => freezeN (i := 0) rfl h) ?_
  refine u_ 4 1 ?_
  refine fixA (congrArg Value.bool (decide_eq_false (fun h => he (he11.symm.trans h)))) ?_
  refine u_ 5 12 ?_
  refine dn Ψ ?_
  refine k_ 3 ?_
  refine rret (is := [1, 1, 3, 3, 3, 3]) () (Or.inl rfl) (Res.t rfl Res.d) ?_ rfl Ω
  rw [sameP_no he]; rfl
set_option maxRecDepth 100000 in
theorem c_logSame1 (l : List Patch) (A : Option Addr) (c : Nat) (hl : l.length ≤ 2000000) (hf : ∀ q ∈ l, q.fit) (hnm : (idsP l).Nodup) (pl p b : Nat) (T : List File) : Con Tryz.prog 37 [.pointer (some ⟨pl, 0, none⟩), .pointer (some ⟨pl, 0, none⟩)] [box pl 82 [.slice A l.length c, .pointer (some ⟨p, 0, none⟩)], row 55 A c l, box p 119 [.map (some b)], tr b T] [] Unit (fun _ => .bool (sameP l l)) (fun _ => [box pl 82 [.slice A l.length c, .pointer (some ⟨p, 0, none⟩)], row 55 A c l, box p 119 [.map (some b)], tr b T]) (fun _ => []) := by
 refine con func37 rfl ntmps37 rfl ?_
 intro M0 F0 w0
 refine k_ 8 ?_
 refine lC [0, 0, 0, 0] call35 (c_logCopy l A c hl hf pl p b T) ?_; rintro ⟨⟨A7, c7⟩, ⟨q7, p7, b7⟩⟩
 refine k_ 4 ?_
 refine cpure (rowFact (α := Patch) (A := A7) (c := c7) (l := l) Θ) ?_
 rintro ⟨hA7, hc7⟩
 by_cases he : (orderP l (idsP l)).2 = 0
 ·
  refine cd [2, 3, 13, 14] [(9, pl, 0, _)] TryzX.mixed (TOk.t (isBoxS Θ (k := 1) Δ) TOk.d) ?_
  refine u_ 0 2 ?_
  refine df 2 Ψ ?_
  refine doR rfl (o_call (is := [4, 4]) call22 (c_logIdsW l A c hl pl p) rfl rfl Ω rfl) (TOk.t (isBoxE fun _ => isBoxS Θ (k := 1) Δ) TOk.d) ?_
  refine ea ?_; rintro ⟨A10, c10⟩
  refine amono (fun a w h => Go.Sx.freeze (i := 0) rfl h) ?_
  refine df 3 Ψ ?_
  refine doR rfl (o_call (is := [3, 2]) call30 (c_logOrder l A7 c7 hl hf hc7 hA7 q7 p7 (idsP l) A10 c10 (by rw [idsP_len]; exact hl) hnm) rfl rfl Ω rfl) (TOk.t (isBoxE fun _ => isBoxS Θ (k := 1) Δ) TOk.d) ?_
  refine ea ?_; rintro ⟨⟨⟨mo, e11⟩, ⟨A11, c11⟩⟩, ho⟩
  dsimp only at ho
  have he11 : e11 = (orderP l (idsP l)).2 := congrArg Prod.snd ho
  have hmo : ∀ q ∈ mo, q.fit := by have h := (orderP_swp l (idsP l)).fit hf; rw [← ho] at h; exact h
  refine amono (fun a w h => freezeN (i := 0) rfl h) ?_
  refine u_ 4 1 ?_
  refine fixA (congrArg Value.bool (decide_eq_true (he11.trans he))) ?_
  refine u_ 5 2 ?_
  refine tk 7 rfl Ψ Υ (gyes rfl rfl rfl rfl) (TTany _) (gpu (p_nilck rfl)) rfl ?_
  refine u_ 8 1 ?_
  refine tk 9 rfl Ψ Υ (gyes rfl rfl rfl rfl) (TTat (List.Mem.head _)) (gpu (p_ld isAgg37 rfl)) rfl ?_
  refine u_ 10 1 ?_
  refine tk 11 rfl Ψ Υ (gyes rfl rfl rfl rfl) (TTany _) (gpu (p_nilck rfl)) rfl ?_
  refine u_ 12 1 ?_
  refine df 13 Ψ ?_
  refine doG rfl rfl rfl rfl rfl (o_ld isAgg37 rfl Θ Θ rfl) (TOk.t (isBoxS Θ (k := 1) Δ) TOk.d) ?_
  refine df 14 Ψ ?_
  refine doG rfl rfl rfl rfl rfl (o_call (is := [2]) call73 (borrow (c_EqualFuncQ l mo A A11 c c11 hl hf hmo) (fun _ z hz => by cases hz)) rfl rfl Ω rfl) tX ?_
  refine ea ?_; intro u22
  refine u_ 15 2 ?_
  refine dn Ψ ?_
  refine k_ 3 ?_
  refine rret (is := [2, 0, 3, 3]) () (Or.inl rfl) (Res.t rfl Res.d) ?_ rfl Ω
  rw [sameP_yes ho he]; rfl
 ·
  refine cd [2, 3] [] TryzX.mixed TOk.d ?_
  refine u_ 0 2 ?_
  refine df 2 Ψ ?_
  refine doR rfl (o_call (is := [4, 4]) call22 (c_logIdsW l A c hl pl p) rfl rfl Ω rfl) TOk.d ?_
  refine ea ?_; rintro ⟨A10, c10⟩
  refine amono (fun a w h => Go.Sx.freeze (i := 0) rfl h) ?_
  refine df 3 Ψ ?_
  refine doR rfl (o_call (is := [3, 2]) call30 (c_logOrder l A7 c7 hl hf hc7 hA7 q7 p7 (idsP l) A10 c10 (by rw [idsP_len]; exact hl) hnm) rfl rfl Ω rfl) TOk.d ?_
  refine ea ?_; rintro ⟨⟨⟨mo, e11⟩, ⟨A11, c11⟩⟩, ho⟩
  dsimp only at ho
  have he11 : e11 = (orderP l (idsP l)).2 := congrArg Prod.snd ho
  have hmo : ∀ q ∈ mo, q.fit := by have h := (orderP_swp l (idsP l)).fit hf; rw [← ho] at h; exact h
  refine amono (fun a w h => freezeN (i := 0) rfl h) ?_
  refine u_ 4 1 ?_
  refine fixA (congrArg Value.bool (decide_eq_false (fun h => he (he11.symm.trans h)))) ?_
  refine u_ 5 12 ?_
  refine dn Ψ ?_
  refine k_ 3 ?_
  refine rret (is := [1, 1, 3, 3]) () (Or.inl rfl) (Res.t rfl Res.d) ?_ rfl Ω
  rw [sameP_no he]; rfl
end Go.Proofs.YtppjcjlijmldiaaGreatDoor.X
end
section
set_option linter.unusedVariables false
set_option linter.unusedSimpArgs false
namespace Go.Proofs.YtppjcjlijmldiaaGreatDoor.X
open Go Go.RowKit Go.Proofs Go.Sx
open Tryz
attribute [local irreducible] slA isA box row TrL TrC TrN TrA Pu OpR
set_option maxHeartbeats 8000000
theorem fold_app : ∀ (l : List Patch) {T : List File} {m n : Nat}, AppInv m n T → AppInv (m + lns (pl l)) (n + (pl l).length) (l.foldl (fun t p => (rowT t p.l).1) T)
 | [], T, m, n, h => h
 | p :: l, T, m, n, h => by
  have h1 := fold_app l (rowT_inv (U := (rowT T p.l).1) (e := (rowT T p.l).2) (l := p.l) h rfl)
  rw [pl_cons, lns_app, List.length_append]
  rw [Nat.add_assoc, Nat.add_assoc] at h1
  exact h1
theorem treeP_app (l : List Patch) : AppInv (lns (pl l)) ((pl l).length) (treeP l) := by
 have := fold_app l (T := []) (m := 0) (n := 0) ⟨Sor.nil, (fun x hx => by cases hx), (fun x hx => by cases hx), Nat.le_refl _⟩
 simp only [Nat.zero_add] at this
 exact this
set_option maxRecDepth 100000 in
theorem c_r8At (l : List Patch) (A : Option Addr) (c : Nat) (hl : l.length ≤ 2000000) (v : Int) : Con Tryz.prog 25 [.slice A l.length c, .int .i64 v] [] [slA A l] Unit (fun _ => .int .i64 (atP l v)) (fun _ => []) (fun _ => []) := by
 refine con func25 rfl ntmps25 rfl ?_
 intro M0 F0 w0
 refine k_ 12 ?_
 refine cl (ι := {k : Nat // k ≤ l.length ∧ ((l.take k).any fun q => decide (q.id = v)) = false}) (fun i => St M0 F0 w0 20 [(0, .slice A l.length c), (1, .int .i64 v), (5, .int .i64 ((i.1 : Nat) : Int))] [] [slA A l]) (fun i => l.length - i.1) ⟨0, Nat.zero_le _, by simp⟩ (wk0 Φ Ω) ?_
 rintro ⟨k, hk, hkk⟩
 refine cmono (S' := St M0 F0 w0 20 [(0, .slice A l.length c), (1, .int .i64 v), (5, .int .i64 ((k : Nat) : Int))] [] [slA A l]) Ħ ?_
 refine k_ 9 ?_
 refine cc rfl ?_ ?_
 ·
  intro h9
  try simp only [nrmZ] at h9
  have hk1 : k < l.length := by omega
  refine k_ 5 ?_
  refine elC Θ k (List.getElem?_eq_getElem (l := l) hk1) ?_; rintro zbp zop zyp hAp
  refine k_ 3 ?_
  refine ls (op (p_ia k hAp hk1 rfl underlying27 sizeOf31 rfl rfl) rfl) ?_
  refine k_ 1 ?_
  refine ls (o_ldi isAgg3 rfl Θ 0 rfl Δ rfl) ?_
  refine k_ 4 ?_
  refine cc rfl ?_ ?_
  ·
   intro h18
   have h18 : decide (l[k].id = v) = true := h18
   refine k_ 8 ?_
   refine rret (is := []) () (Or.inl rfl) (Res.t rfl Res.d) ?_ rfl Ω
   simp only [packV]; rw [atP_yes hk1 hkk h18]
  ·
   intro h18
   have h18 : decide (l[k].id = v) = false := h18
   refine k_ 8 ?_
   refine nnext ⟨k + 1, hk1, by rw [List.take_succ_eq_append_getElem hk1, List.any_append, hkk]; simp only [List.any_cons, List.any_nil, h18, Bool.or_false]⟩ (by dsimp only; omega) (wK [])
 ·
  intro h9
  try simp only [nrmZ] at h9
  refine k_ 12 ?_
  refine rret (is := []) () (Or.inl rfl) (Res.t rfl Res.d) ?_ rfl Ω
  simp only [packV]; rw [atP_no (by rw [List.take_of_length_le (by omega)] at hkk; exact hkk)]
set_option maxRecDepth 100000 in
theorem c_r8Tree (l : List Patch) (A : Option Addr) (c : Nat) (hl : l.length ≤ 2000000) (hf : ∀ q ∈ l, q.fit) (hz : lns (pl l) ≤ 600000) (hy : (pl l).length ≤ 600000) : Con Tryz.prog 21 [.slice A l.length c] [] [slA A l] (Option Addr × Nat) (fun y => .slice y.1 (treeP l).length y.2) (fun _ => []) (fun y => [slA y.1 (treeP l)]) := by
 refine con func21 rfl ntmps21 rfl ?_
 intro M0 F0 w0
 refine k_ 12 ?_
 refine cmono (fun a w h => nilSl (α := File) h) ?_
 refine k_ 5 ?_
 refine cl (ι := {q : Nat × (Option Addr × Nat) // q.1 ≤ l.length}) (fun i => St M0 F0 w0 27 [(0, .slice A l.length c), (3, .slice i.1.2.1 (treeP (l.take i.1.1)).length i.1.2.2), (4, .int .i64 ((i.1.1 : Nat) : Int))] [] [slA (i.1.2.1) (treeP (l.take i.1.1)), slA A l]) (fun i => l.length - i.1.1) ⟨(0, (none, 0)), Nat.zero_le _⟩ (wk0 Φ Ω) ?_
 rintro ⟨⟨k, ⟨A3, c3⟩⟩, hk⟩
 refine cmono (S' := St M0 F0 w0 27 [(0, .slice A l.length c), (3, .slice A3 (treeP (l.take k)).length c3), (4, .int .i64 ((k : Nat) : Int))] [] [slA (A3) (treeP (l.take k)), slA A l]) Ħ ?_
 refine k_ 9 ?_
 refine cc rfl ?_ ?_
 ·
  intro h10
  dsimp only at hk
  try simp only [nrmZ] at h10
  have hk1 : k < l.length := by omega
  have hfk := hf _ (List.getElem_mem hk1)
  have hap := treeP_app (l.take k)
  have hb := lns_pl hk1
  have htl := hap.len
  refine k_ 5 ?_
  refine elC (A := A) (l := l) Θ k (List.getElem?_eq_getElem (l := l) hk1) ?_; rintro zbp zop zyp hAp
  refine k_ 4 ?_
  refine ls (op (p_ia k hAp hk1 rfl underlying27 sizeOf31 rfl rfl) rfl) ?_
  refine k_ 1 ?_
  refine ls (o_ldi isAgg29 rfl Θ 3 rfl Δ rfl) ?_
  refine lC [] call52 (c_ref5Apply (treeP (l.take k)) A3 c3 (by omega) _ _ hap l[k].l zyp.2.1 zyp.2.2 (by omega) hfk.lf (by omega) (by omega)) ?_; rintro ⟨⟨⟨U, e20⟩, ⟨A20, c20⟩⟩, hq⟩
  dsimp only at hq
  refine k_ 13 ?_
  refine cc rfl ?_ ?_
  ·
   intro h24
   have eT : treeP (l.take (k + 1)) = U := by rw [List.take_succ_eq_append_getElem hk1, treeP_snoc, ← hq]
   refine k_ 11 ?_
   refine nnext ⟨(k + 1, (A20, c20)), hk1⟩ (by dsimp only; omega) (fun a w h => by dsimp only; rw [eT]; exact wL [] h)
  ·
   intro h24
   have he : ¬ e20 = 0 := by have h := h24; simpa using h
   have eT : treeP (l.take (k + 1)) = treeP (l.take k) := by rw [List.take_succ_eq_append_getElem hk1, treeP_snoc, ← hq]; exact rowT_no hq he
   refine k_ 8 ?_
   refine nnext ⟨(k + 1, (A3, c3)), hk1⟩ (by dsimp only; omega) (fun a w h => by dsimp only; rw [eT]; exact wL [] h)
 ·
  intro h10
  dsimp only at hk
  try simp only [nrmZ] at h10
  obtain rfl : k = l.length := by omega
  rw [List.take_length]
  refine k_ 13 ?_
  exact rR [] (A3, c3)
set_option maxRecDepth 100000 in
theorem c_r8Add (l : List Patch) (A : Option Addr) (c : Nat) (hl : l.length ≤ 2000000) (hf : ∀ q ∈ l, q.fit) (hz : lns (pl l) ≤ 600000) (hy : (pl l).length ≤ 600000) (q : Patch) (y : Rp.Lay Patch) (hq : q.fit) (hqz : lns q.l ≤ 600000) (hqy : q.l.length ≤ 600000) : Con Tryz.prog 43 [.slice A l.length c, sv q y] [] [slA A l, nilA (A, c), capA c l.length, slA y.1.1 q.deps, slA y.2.1 q.l, capA y.2.2 q.l.length] {x : (List Patch × Int) × (Option Addr × Nat) // x.1 = addD l q} (fun x => .tuple #[.slice x.1.2.1 x.1.1.1.length x.1.2.2, .int .i64 x.1.1.2]) (fun _ => []) (fun x => [slA x.1.2.1 x.1.1.1, nilA x.1.2, capA x.1.2.2 x.1.1.1.length]) := by
 refine con func43 rfl ntmps43 rfl ?_
 intro M0 F0 w0
 refine k_ 2 ?_
 refine ls (o_box rfl rfl rfl) ?_
 refine le ?_; intro b3
 refine k_ 7 ?_
 refine ls (o_ldw isAgg31 sizeOf31 rfl Θ (by rfl) rfl) ?_
 refine lC [] call80 (c_rRight q y hq) ?_; intro x10
 refine k_ 3 ?_
 refine cc rfl ?_ ?_
 ·
  intro h11
  have hr : q.right = false := by have h := h11; simpa using h
  refine k_ 9 ?_
  exact rR [] ⟨((l, 70), (A, c)), by unfold addD; rw [if_pos hr]⟩
 ·
  intro h11
  have hr : q.right = true := by have h := h11; simpa using h
  refine k_ 8 ?_
  refine lC [] call25 (c_r8At l A c hl q.id) ?_; intro x16
  refine k_ 3 ?_
  refine cc rfl ?_ ?_
  ·
   intro h17
   have ha : 0 ≤ atP l q.id := of_decide_eq_true h17
   refine k_ 9 ?_
   exact rR [] ⟨((l, 80), (A, c)), by unfold addD; rw [if_neg (by rw [hr]; simp), if_pos ha]⟩
  ·
   intro h17
   have ha : ¬ 0 ≤ atP l q.id := of_decide_eq_false h17
   refine k_ 4 ?_
   have hdl := hq.dl
   refine k_ 5 ?_
   refine cl (ι := {k : Nat // k ≤ q.deps.length ∧ ((q.deps.take k).any fun d => decide (atP l d < 0)) = false}) (fun i => St M0 F0 w0 53 [(0, .slice A l.length c), (3, .pointer (some ⟨b3, 0, none⟩)), (6, .int .i64 ((i.1 : Nat) : Int))] [box b3 31 (Rp.enc q y)] [slA A l, nilA (A, c), capA c l.length, slA y.1.1 q.deps, slA y.2.1 q.l, capA y.2.2 q.l.length]) (fun i => q.deps.length - i.1) ⟨0, Nat.zero_le _, by simp⟩ (wk0 Φ Ω) ?_
   rintro ⟨k, hk, hkk⟩
   refine cmono (S' := St M0 F0 w0 53 [(0, .slice A l.length c), (3, .pointer (some ⟨b3, 0, none⟩)), (6, .int .i64 ((k : Nat) : Int))] [box b3 31 (Rp.enc q y)] [slA A l, nilA (A, c), capA c l.length, slA y.1.1 q.deps, slA y.2.1 q.l, capA y.2.2 q.l.length]) Ħ ?_
   refine k_ 10 ?_
   refine cc rfl ?_ ?_
   ·
    intro h23
    try simp only [nrmZ] at h23
    have hk1 : k < q.deps.length := by omega
    refine k_ 5 ?_
    refine elC (A := y.1.1) (l := q.deps) Θ k (List.getElem?_eq_getElem (l := q.deps) hk1) ?_; rintro zbp zop zyp hAp
    refine k_ 5 ?_
    refine ls (op (p_ia k hAp hk1 rfl underlying28 sizeOf3 rfl rfl) rfl) ?_
    refine ls (o_ldi isAgg3 rfl Θ 0 rfl Δ rfl) ?_
    refine lC [] call25 (c_r8At l A c hl q.deps[k]) ?_; intro x32
    refine k_ 3 ?_
    refine cc rfl ?_ ?_
    ·
     intro h33
     have hd : (q.deps.any fun d => decide (atP l d < 0)) = true := List.any_eq_true.2 ⟨q.deps[k], List.getElem_mem hk1, h33⟩
     refine k_ 9 ?_
     exact rR [] ⟨((l, 82), (A, c)), by unfold addD; rw [if_neg (by rw [hr]; simp), if_neg ha, if_pos hd]⟩
    ·
     intro h33
     have h33 : decide (atP l q.deps[k] < 0) = false := h33
     refine k_ 8 ?_
     refine nnext ⟨k + 1, hk1, by rw [List.take_succ_eq_append_getElem hk1, List.any_append, hkk]; simp only [List.any_cons, List.any_nil, h33, Bool.or_false]⟩ (by dsimp only; omega) (wk0 Φ Ω)
   ·
    intro h23
    try simp only [nrmZ] at h23
    rw [List.take_of_length_le (by omega)] at hkk
    refine k_ 6 ?_
    have hap := treeP_app l; have htl := hap.len
    refine cd [1, 4] [(3, b3, 3, _)] TryzX.mixed (TOk.t (isBoxS Θ (k := 1) Δ) TOk.d) ?_
    refine u_ 0 1 ?_
    refine u_ 2 2 ?_
    refine df 1 Ψ ?_
    refine doR rfl (o_call (is := []) call21 (c_r8Tree l A c hl hf hz hy) rfl rfl Ω rfl) (TOk.t (isBoxE fun _ => isBoxS Θ (k := 1) Δ) TOk.d) ?_
    refine ea ?_; rintro ⟨A37, c37⟩
    refine df 4 Ψ ?_
    refine doR rfl (o_call (is := []) call52 (c_ref5Apply (treeP l) A37 c37 (by omega) _ _ hap q.l y.2.1 y.2.2 (by omega) hq.lf (by omega) (by omega)) rfl rfl Ω rfl) tX ?_
    refine ea ?_; rintro ⟨⟨⟨U, e40⟩, ⟨A40, c40⟩⟩, hq40⟩
    dsimp only at hq40
    refine u_ 5 5 ?_
    refine dn Ψ ?_
    refine k_ 8 ?_
    refine cc rfl ?_ ?_
    ·
     intro h44
     have he : ¬ e40 = 0 := by have h := h44; simpa using h
     refine k_ 10 ?_
     exact rR [] ⟨((l, e40), (A, c)), by unfold addD; rw [if_neg (by rw [hr]; simp), if_neg ha, if_neg (by rw [hkk]; simp), ← hq40, if_neg he]⟩
    ·
     intro h44
     obtain rfl : e40 = 0 := by have h := h44; simpa using h
     refine k_ 3 ?_
     refine cutC (S' := fun a w => ∃ (A52 : Option Addr) (c52 : Nat), St M0 F0 w0 53 [(4, .slice A52 (l ++ [q]).length c52), (5, .int .i64 0)] [box b3 31 (Rp.enc q y)] [slA A52 (l ++ [q]), nilA (A52, c52), capA c52 (l ++ [q]).length] a w) ?_ ?_
     ·
      refine cd [0, 2, 4, 5] [(3, b3, 0, _)] TryzX.mixed (TOk.t (isBoxS Θ (k := 4) Δ) TOk.d) ?_
      refine u_ 1 1 ?_
      refine u_ 3 1 ?_
      refine dall (is := [0, 4]) Ψ rfl ?_
      intro i hi; simp only [List.mem_cons, List.mem_nil_iff, or_false] at hi; rcases hi with rfl | rfl
      ·
       refine doR rfl (o_bsl ([] : List Patch) underlying27 sizeOf31 zeroValue31 rfl Enum.d RV.d rfl (by decide) (by decide) rfl) (TOk.t (isBoxE fun _ => isBoxS Θ (k := 4) Δ) TOk.d) ?_
       refine ea ?_; intro b47
       refine dall (is := [2, 4]) Ψ rfl ?_
       intro i hi; simp only [List.mem_cons, List.mem_nil_iff, or_false] at hi; rcases hi with rfl | rfl
       ·
        refine doR rfl (o_appX (i := 0) underlying27 inf31 rfl (by decide) (by decide) rfl rfl (by simp only [List.length_nil]; omega) rfl Ω rfl) (TOk.t (isBoxE fun _ => isBoxS Θ (k := 4) Δ) TOk.d) ?_
        refine ea ?_; rintro ⟨A49, c49⟩
        refine df 4 Ψ ?_
        refine doR rfl (o_bsl [q] underlying27 sizeOf31 zeroValue31 rfl (Enum.t Enum.d) (RV.t y rfl Ω RV.d) rfl (by decide) (by decide) rfl) tX ?_
        refine ea ?_; intro b51
        refine amono (fun a w h => Go.Sx.freeze (i := 0) rfl h) ?_
        refine df 5 Ψ ?_
        refine doR rfl (o_appX (i := 0) underlying27 inf31 rfl (by decide) (by decide) rfl rfl (by simp only [List.length_append, List.length_cons, List.length_nil]; omega) rfl Ω rfl) tX ?_
        refine ea ?_; rintro ⟨A52, c52⟩
        refine amono (fun a w h => freezeN (i := 0) rfl h) ?_
        refine u_ 6 2 ?_
        refine dn Ψ (nmid (fun a w h => by first | exact ⟨A52, c52, wL [0] h⟩))
       ·
        refine doR rfl (o_bsl [q] underlying27 sizeOf31 zeroValue31 rfl (Enum.t Enum.d) (RV.t y rfl Ω RV.d) rfl (by decide) (by decide) rfl) tX ?_
        refine ea ?_; intro b51
        refine amono (fun a w h => Go.Sx.freeze (i := 0) rfl h) ?_
        refine df 2 Ψ ?_
        refine doR rfl (o_appX (i := 0) underlying27 inf31 rfl (by decide) (by decide) rfl rfl (by simp only [List.length_nil]; omega) rfl Ω rfl) tX ?_
        refine ea ?_; rintro ⟨A49, c49⟩
        refine df 5 Ψ ?_
        refine doR rfl (o_appX (i := 0) underlying27 inf31 rfl (by decide) (by decide) rfl rfl (by simp only [List.length_append, List.length_cons, List.length_nil]; omega) rfl Ω rfl) tX ?_
        refine ea ?_; rintro ⟨A52, c52⟩
        refine amono (fun a w h => freezeN (i := 0) rfl h) ?_
        refine u_ 6 2 ?_
        refine dn Ψ (nmid (fun a w h => by first | exact ⟨A52, c52, wL [0] h⟩))
      ·
       refine doR rfl (o_bsl [q] underlying27 sizeOf31 zeroValue31 rfl (Enum.t Enum.d) (RV.t y rfl Ω RV.d) rfl (by decide) (by decide) rfl) tX ?_
       refine ea ?_; intro b51
       refine amono (fun a w h => Go.Sx.freeze (i := 0) rfl h) ?_
       refine df 0 Ψ ?_
       refine doR rfl (o_bsl ([] : List Patch) underlying27 sizeOf31 zeroValue31 rfl Enum.d RV.d rfl (by decide) (by decide) rfl) tX ?_
       refine ea ?_; intro b47
       refine df 2 Ψ ?_
       refine doR rfl (o_appX (i := 0) underlying27 inf31 rfl (by decide) (by decide) rfl rfl (by simp only [List.length_nil]; omega) rfl Ω rfl) tX ?_
       refine ea ?_; rintro ⟨A49, c49⟩
       refine df 5 Ψ ?_
       refine doR rfl (o_appX (i := 0) underlying27 inf31 rfl (by decide) (by decide) rfl rfl (by simp only [List.length_append, List.length_cons, List.length_nil]; omega) rfl Ω rfl) tX ?_
       refine ea ?_; rintro ⟨A52, c52⟩
       refine amono (fun a w h => freezeN (i := 0) rfl h) ?_
       refine u_ 6 2 ?_
       refine dn Ψ (nmid (fun a w h => by first | exact ⟨A52, c52, wL [0] h⟩))
     ·
      refine nex fun A52 => nex fun c52 => ?_
      refine k_ 3 ?_
      exact rR [] ⟨((l ++ [q], 0), (A52, c52)), by unfold addD; rw [if_neg (by rw [hr]; simp), if_neg ha, if_neg (by rw [hkk]; simp), ← hq40, if_pos rfl]⟩
set_option maxRecDepth 100000 in
theorem c_r8Last (l : List Patch) (A : Option Addr) (c : Nat) (hl : l.length ≤ 2000000) (hf : ∀ q ∈ l, q.fit) (v : Int) : Con Tryz.prog 44 [.slice A l.length c, .int .i64 v] [] [slA A l, nilA (A, c), capA c l.length] {x : (List Patch × Int) × (Option Addr × Nat) // x.1 = lastP l v} (fun x => .tuple #[.slice x.1.2.1 x.1.1.1.length x.1.2.2, .int .i64 x.1.1.2]) (fun _ => []) (fun x => [slA x.1.2.1 x.1.1.1, nilA x.1.2, capA x.1.2.2 x.1.1.1.length]) := by
 refine con func44 rfl ntmps44 rfl ?_
 intro M0 F0 w0
 refine k_ 10 ?_
 refine lC [] call25 (c_r8At l A c hl v) ?_; intro x14
 refine k_ 10 ?_
 refine cc rfl ?_ ?_
 ·
  intro h16
  have hn : atP l v < 0 := of_decide_eq_true h16
  refine k_ 9 ?_
  exact rR [] ⟨((l, 81), (A, c)), (lastP_no hn).symm⟩
 ·
  intro h16
  have hn : ¬ atP l v < 0 := of_decide_eq_false h16
  obtain ⟨k, hk1, hk2, _⟩ : ∃ k : Nat, ∃ h : k < l.length, atP l v = (k : Int) ∧ l[k].id = v ∧ ∀ j (hj : j < k), l[j].id ≠ v := by rcases atP_cases l v with ⟨h, _⟩ | h; omega; exact h
  have hDl : (l.drop (k + 1)).length = l.length - (k + 1) := List.length_drop
  have hfD : ∀ q ∈ (l.drop (k + 1)), q.fit := fun q hq => hf q (List.mem_of_mem_drop hq)
  refine k_ 4 ?_
  refine ls (o_bsl ([] : List Patch) underlying27 sizeOf31 zeroValue31 rfl Enum.d RV.d rfl (by decide) (by decide) rfl) ?_
  refine le ?_; intro b18
  refine k_ 1 ?_
  refine ls (o_appX (i := 0) underlying27 inf31 rfl (by decide) (by decide) rfl rfl (by simp only [List.length_nil]; omega) rfl Ω rfl) ?_
  refine le ?_; rintro ⟨A20, c20⟩
  refine k_ 7 ?_
  refine fixL (v' := .int .i64 ((k : Nat) : Int)) (congrArg (Value.int .i64) hk2) ?_
  refine k_ 4 ?_
  refine cl (ι := {q : (Nat × List Patch) × Patch × (Option Addr × Nat) // q.1.1 ≤ (l.drop (k + 1)).length ∧ lastF l[k] ((l.drop (k + 1)).take q.1.1) = some (q.1.2, q.2.1)}) (fun i => St M0 F0 w0 56 [(0, .slice A l.length c), (7, .slice i.1.2.2.1 l.length i.1.2.2.2), (8, .int .i64 ((k + i.1.1.1 : Nat) : Int))] [row 31 (i.1.2.2.1) (i.1.2.2.2) (l.take k ++ (i.1.1.2 ++ (i.1.2.1 :: (l.drop (k + 1)).drop i.1.1.1)))] [slA A l, nilA (A, c), capA c l.length]) (fun i => (l.drop (k + 1)).length - i.1.1.1) ⟨((0, []), l[k], (A20, c20)), Nat.zero_le _, rfl⟩ (fun a w h => by dsimp only; rw [show l.take k ++ ([] ++ (l[k] :: (l.drop (k + 1)).drop 0)) = [] ++ l by rw [List.drop_zero, ← List.drop_eq_getElem_cons hk1]; simp]; exact wL [0] h) ?_
  rintro ⟨⟨⟨n, s⟩, b, ⟨A7, c7⟩⟩, hk3, hlf⟩
  refine cmono (S' := St M0 F0 w0 56 [(0, .slice A l.length c), (7, .slice A7 l.length c7), (8, .int .i64 ((k + n : Nat) : Int))] [row 31 (A7) (c7) (l.take k ++ (s ++ (b :: (l.drop (k + 1)).drop n)))] [slA A l, nilA (A, c), capA c l.length]) Ħ ?_
  refine k_ 4 ?_
  refine ls (op (p_add rfl rfl (by dsimp only at hk3; omega)) rfl) ?_
  refine k_ 5 ?_
  refine cc rfl ?_ ?_
  ·
   intro h26
   dsimp only at hk3 hlf
   try simp only [nrmZ] at h26
   have hk4 : n < (l.drop (k + 1)).length := by omega
   have hls := lastF_len hlf
   have hfb := (lastF_fit hlf (hf _ (List.getElem_mem hk1)) (fun q hq => hfD q (List.mem_of_mem_take hq))).2
   have hfq := hfD _ (List.getElem_mem hk4)
   have hti : (l.take k).length = k := by rw [List.length_take]; omega
   have hsn : s.length = n := by rw [hls, List.length_take]; omega
   have eD : (l.drop (k + 1)).drop n = (l.drop (k + 1))[n] :: (l.drop (k + 1)).drop (n + 1) := List.drop_eq_getElem_cons hk4
   rw [eD]
   refine rowC (α := Patch) Θ (by intro e; simp at e) ?_; rintro g rfl
   refine k_ 5 ?_
   refine cmono (fun a w h => pin0 (α := Patch) Θ Θ h) ?_
   refine pinC (α := Patch) (k + n) Θ (mid_get1 (by omega)) (fun _ => Θ) ?_; intro yp
   refine pinC (α := Patch) (k + n + 1) Θ (mid_get2 (by omega)) (fun _ => Θ) ?_; intro yq
   refine cutC (S' := fun a w => ∃ (b9 : Nat) (b10 : Nat) (r1 : Patch) (r2 : Patch) (r3 : Bool) (z1 : Rp.Lay Patch) (z2 : Rp.Lay Patch) (hr : (r1, r2, r3) = pswap b (l.drop (k + 1))[n]), St M0 F0 w0 56 [(0, .slice A l.length c), (7, .slice (some ⟨g, 0, none⟩) l.length c7), (8, .int .i64 ((k + n : Nat) : Int)), (9, .pointer (some ⟨b9, 0, none⟩)), (10, .pointer (some ⟨b10, 0, none⟩)), (11, .bool r3)] [rowPin 31 g c7 (l.take k ++ (s ++ (b :: (l.drop (k + 1))[n] :: (l.drop (k + 1)).drop (n + 1)))) [(k + n + 1, (l.drop (k + 1))[n], yq), (k + n, b, yp)], box b9 31 (Rp.enc r1 z1), box b10 31 (Rp.enc r2 z2)] [slA z1.1.1 r1.deps, slA z1.2.1 r1.l, capA z1.2.2 r1.l.length, slA z2.1.1 r2.deps, slA z2.2.1 r2.l, capA z2.2.2 r2.l.length, slA A l, nilA (A, c), capA c l.length] a w) ?_ ?_
   ·
    refine cd [9, 14, 15, 16, 17] [(3, g, 0 + (k + n) * Rp.size Patch, _), (8, g, 0 + (k + n + 1) * Rp.size Patch, _)] TryzX.mixed (TOk.t (isPin Θ (List.Mem.tail _ (List.Mem.head _))) (TOk.t (isPin Θ (List.Mem.head _)) TOk.d)) ?_
    refine u_ 0 2 ?_
    refine tk 2 rfl Ψ Υ gnone (TTany _) (p_ia (k + n) rfl (by omega) (by omega) underlying27 sizeOf31 rfl rfl) rfl ?_
    refine u_ 3 4 ?_
    refine tk 7 rfl Ψ Υ gnone (TTany _) (p_ia (k + n + 1) rfl (by omega) (by omega) underlying27 sizeOf31 rfl rfl) rfl ?_
    refine u_ 8 1 ?_
    refine dall (is := [9, 14, 15]) Ψ rfl ?_
    intro i hi; simp only [List.mem_cons, List.mem_nil_iff, or_false] at hi; rcases hi with rfl | rfl | rfl
    ·
     refine doR rfl (o_call (is := []) call81 (c_rSwap b (l.drop (k + 1))[n] yp yq hfb hfq) rfl rfl Ω rfl) tX ?_
     refine ea ?_; rintro ⟨⟨⟨r1, r2, r3⟩, z1, z2⟩, hr⟩
     dsimp only at hr
     refine u_ 10 4 ?_
     refine dall (is := [14, 15]) Ψ rfl ?_
     intro i hi; simp only [List.mem_cons, List.mem_nil_iff, or_false] at hi; rcases hi with rfl | rfl
     ·
      refine doR rfl (o_alloc zeroValue31 rfl rfl) tX ?_
      refine ea ?_; intro b9
      refine df 15 Ψ ?_
      refine doR rfl (o_alloc zeroValue31 rfl rfl) tX ?_
      refine ea ?_; intro b10
      refine df 16 Ψ ?_
      refine doR rfl (o_st rfl sizeOf31 rfl rfl rfl rfl rfl Θ Θ Θ) tX ?_
      refine df 17 Ψ ?_
      refine doR rfl (o_st rfl sizeOf31 rfl rfl rfl rfl rfl Θ Θ Θ) tX ?_
      refine u_ 18 1 ?_
      refine dn Ψ (nmid (fun a w h => by first | exact ⟨b9, b10, r1, r2, r3, z1, z2, hr, wL [2, 1, 0] h⟩ | exact ⟨b9, b10, r1, r2, r3, z1, z2, hr, wL [2, 0, 0] h⟩))
     ·
      refine doR rfl (o_alloc zeroValue31 rfl rfl) tX ?_
      refine ea ?_; intro b10
      refine df 14 Ψ ?_
      refine doR rfl (o_alloc zeroValue31 rfl rfl) tX ?_
      refine ea ?_; intro b9
      refine df 16 Ψ ?_
      refine doR rfl (o_st rfl sizeOf31 rfl rfl rfl rfl rfl Θ Θ Θ) tX ?_
      refine df 17 Ψ ?_
      refine doR rfl (o_st rfl sizeOf31 rfl rfl rfl rfl rfl Θ Θ Θ) tX ?_
      refine u_ 18 1 ?_
      refine dn Ψ (nmid (fun a w h => by first | exact ⟨b9, b10, r1, r2, r3, z1, z2, hr, wL [2, 1, 0] h⟩ | exact ⟨b9, b10, r1, r2, r3, z1, z2, hr, wL [2, 0, 0] h⟩))
    ·
     refine doR rfl (o_alloc zeroValue31 rfl rfl) (TOk.t (isBoxE fun _ => isPin Θ (List.Mem.tail _ (List.Mem.head _))) (TOk.t (isBoxE fun _ => isPin Θ (List.Mem.head _)) TOk.d)) ?_
     refine ea ?_; intro b9
     refine dall (is := [9, 15]) Ψ rfl ?_
     intro i hi; simp only [List.mem_cons, List.mem_nil_iff, or_false] at hi; rcases hi with rfl | rfl
     ·
      refine doR rfl (o_call (is := []) call81 (c_rSwap b (l.drop (k + 1))[n] yp yq hfb hfq) rfl rfl Ω rfl) tX ?_
      refine ea ?_; rintro ⟨⟨⟨r1, r2, r3⟩, z1, z2⟩, hr⟩
      dsimp only at hr
      refine u_ 10 4 ?_
      refine df 15 Ψ ?_
      refine doR rfl (o_alloc zeroValue31 rfl rfl) tX ?_
      refine ea ?_; intro b10
      refine df 16 Ψ ?_
      refine doR rfl (o_st rfl sizeOf31 rfl rfl rfl rfl rfl Θ Θ Θ) tX ?_
      refine df 17 Ψ ?_
      refine doR rfl (o_st rfl sizeOf31 rfl rfl rfl rfl rfl Θ Θ Θ) tX ?_
      refine u_ 18 1 ?_
      refine dn Ψ (nmid (fun a w h => by first | exact ⟨b9, b10, r1, r2, r3, z1, z2, hr, wL [2, 1, 0] h⟩ | exact ⟨b9, b10, r1, r2, r3, z1, z2, hr, wL [2, 0, 0] h⟩))
     ·
      refine doR rfl (o_alloc zeroValue31 rfl rfl) (TOk.t (isBoxE fun _ => isPin Θ (List.Mem.tail _ (List.Mem.head _))) (TOk.t (isBoxE fun _ => isPin Θ (List.Mem.head _)) TOk.d)) ?_
      refine ea ?_; intro b10
      refine df 9 Ψ ?_
      refine doR rfl (o_call (is := []) call81 (c_rSwap b (l.drop (k + 1))[n] yp yq hfb hfq) rfl rfl Ω rfl) tX ?_
      refine ea ?_; rintro ⟨⟨⟨r1, r2, r3⟩, z1, z2⟩, hr⟩
      dsimp only at hr
      refine u_ 10 4 ?_
      refine df 16 Ψ ?_
      refine doR rfl (o_st rfl sizeOf31 rfl rfl rfl rfl rfl Θ Θ Θ) tX ?_
      refine df 17 Ψ ?_
      refine doR rfl (o_st rfl sizeOf31 rfl rfl rfl rfl rfl Θ Θ Θ) tX ?_
      refine u_ 18 1 ?_
      refine dn Ψ (nmid (fun a w h => by first | exact ⟨b9, b10, r1, r2, r3, z1, z2, hr, wL [2, 1, 0] h⟩ | exact ⟨b9, b10, r1, r2, r3, z1, z2, hr, wL [2, 0, 0] h⟩))
    ·
     refine doR rfl (o_alloc zeroValue31 rfl rfl) (TOk.t (isBoxE fun _ => isPin Θ (List.Mem.tail _ (List.Mem.head _))) (TOk.t (isBoxE fun _ => isPin Θ (List.Mem.head _)) TOk.d)) ?_
     refine ea ?_; intro b10
     refine dall (is := [9, 14]) Ψ rfl ?_
     intro i hi; simp only [List.mem_cons, List.mem_nil_iff, or_false] at hi; rcases hi with rfl | rfl
     ·
      refine doR rfl (o_call (is := []) call81 (c_rSwap b (l.drop (k + 1))[n] yp yq hfb hfq) rfl rfl Ω rfl) tX ?_
      refine ea ?_; rintro ⟨⟨⟨r1, r2, r3⟩, z1, z2⟩, hr⟩
      dsimp only at hr
      refine u_ 10 4 ?_
      refine df 14 Ψ ?_
      refine doR rfl (o_alloc zeroValue31 rfl rfl) tX ?_
      refine ea ?_; intro b9
      refine df 16 Ψ ?_
      refine doR rfl (o_st rfl sizeOf31 rfl rfl rfl rfl rfl Θ Θ Θ) tX ?_
      refine df 17 Ψ ?_
      refine doR rfl (o_st rfl sizeOf31 rfl rfl rfl rfl rfl Θ Θ Θ) tX ?_
      refine u_ 18 1 ?_
      refine dn Ψ (nmid (fun a w h => by first | exact ⟨b9, b10, r1, r2, r3, z1, z2, hr, wL [2, 1, 0] h⟩ | exact ⟨b9, b10, r1, r2, r3, z1, z2, hr, wL [2, 0, 0] h⟩))
     ·
      refine doR rfl (o_alloc zeroValue31 rfl rfl) (TOk.t (isBoxE fun _ => isPin Θ (List.Mem.tail _ (List.Mem.head _))) (TOk.t (isBoxE fun _ => isPin Θ (List.Mem.head _)) TOk.d)) ?_
      refine ea ?_; intro b9
      refine df 9 Ψ ?_
      refine doR rfl (o_call (is := []) call81 (c_rSwap b (l.drop (k + 1))[n] yp yq hfb hfq) rfl rfl Ω rfl) tX ?_
      refine ea ?_; rintro ⟨⟨⟨r1, r2, r3⟩, z1, z2⟩, hr⟩
      dsimp only at hr
      refine u_ 10 4 ?_
      refine df 16 Ψ ?_
      refine doR rfl (o_st rfl sizeOf31 rfl rfl rfl rfl rfl Θ Θ Θ) tX ?_
      refine df 17 Ψ ?_
      refine doR rfl (o_st rfl sizeOf31 rfl rfl rfl rfl rfl Θ Θ Θ) tX ?_
      refine u_ 18 1 ?_
      refine dn Ψ (nmid (fun a w h => by first | exact ⟨b9, b10, r1, r2, r3, z1, z2, hr, wL [2, 1, 0] h⟩ | exact ⟨b9, b10, r1, r2, r3, z1, z2, hr, wL [2, 0, 0] h⟩))
   ·
    refine nex fun b9 => nex fun b10 => nex fun r1 => nex fun r2 => nex fun r3 => nex fun z1 => nex fun z2 => nex fun hr => ?_
    refine k_ 8 ?_
    refine cc rfl ?_ ?_
    ·
     intro h44
     obtain rfl : false = r3 := by cases r3 <;> first | rfl | (simp at h44)
     have hno : lastF l[k] (l.drop (k + 1)) = none := lastF_stuck hk4 hlf hr
     refine k_ 9 ?_
     exact rR [] ⟨((l, 83), (A, c)), (lastP_none hk1 hk2 hno).symm⟩
    ·
     intro h44
     obtain rfl : true = r3 := by cases r3 <;> first | rfl | (simp at h44)
     refine k_ 3 ?_
     refine cmono (fun a w h => unpin (α := Patch) Θ Θ h) ?_
     refine k_ 3 ?_
     refine ls (o_ldw isAgg31 sizeOf31 rfl Θ (by rfl) rfl) ?_
     refine ls (op (p_ia (k + n) rfl (by omega) (by omega) underlying27 sizeOf31 rfl rfl) rfl) ?_
     refine ls (o_strow (z := r1) (yz := z1) rfl sizeOf31 rfl rfl rfl Θ (by simp; omega) Θ Ω) ?_
     refine k_ 6 ?_
     refine ls (o_ldw isAgg31 sizeOf31 rfl Θ (by rfl) rfl) ?_
     refine ls (op (p_ia (k + n + 1) rfl (by omega) (by omega) underlying27 sizeOf31 rfl rfl) rfl) ?_
     refine ls (o_strow (z := r2) (yz := z2) rfl sizeOf31 rfl rfl rfl Θ (by simp; omega) Θ Ω) ?_
     refine k_ 8 ?_
     rw [mid_set (by omega)]
     refine nnext ⟨((n + 1, s ++ [r1]), r2, (some ⟨g, 0, none⟩, c7)), hk4, lastF_step hk4 hlf hr⟩ (by dsimp only; omega) (wK [0])
  ·
   intro h26
   dsimp only at hk3 hlf
   try simp only [nrmZ] at h26
   obtain rfl : n = (l.drop (k + 1)).length := by omega
   rw [List.take_length] at hlf
   have hls := lastF_len hlf
   refine k_ 6 ?_
   refine cmono (fun a w h => rowEq (α := Patch) (l' := l.take k ++ s ++ [b]) Θ (by rw [List.drop_eq_nil_of_le (Nat.le_refl _)]; simp) Θ h) ?_
   refine cmono (fun a w h => freezeN (i := 0) rfl h) ?_
   refine k_ 8 ?_
   refine rret (is := []) ⟨((l.take k ++ s ++ [b], 0), (A7, c7)), (lastP_some hk1 hk2 hlf).symm⟩ (Or.inl rfl) (Res.t rfl (Res.t rfl Res.d)) ?_ rfl Ω
   dsimp only [packV]; rw [show (l.take k ++ s ++ [b]).length = l.length by simp only [List.length_append, List.length_take, List.length_cons, List.length_nil]; omega]
set_option maxRecDepth 100000 in
theorem c_r8Take (l : List Patch) (A : Option Addr) (c : Nat) (hl : l.length ≤ 2000000) (hf : ∀ q ∈ l, q.fit) (v : Int) : Con Tryz.prog 26 [.slice A l.length c, .int .i64 v] [] [slA A l, nilA (A, c), capA c l.length] {x : ((List Patch × List Patch) × Int) × ((Option Addr × Nat) × (Option Addr × Nat)) // x.1 = takeP l v} (fun x => .tuple #[.slice x.1.2.1.1 x.1.1.1.1.length x.1.2.1.2, .slice x.1.2.2.1 x.1.1.1.2.length x.1.2.2.2, .int .i64 x.1.1.2]) (fun _ => []) (fun x => [slA x.1.2.1.1 x.1.1.1.1, nilA x.1.2.1, capA x.1.2.1.2 x.1.1.1.1.length, slA x.1.2.2.1 x.1.1.1.2]) := by
 refine con func26 rfl ntmps26 rfl ?_
 intro M0 F0 w0
 refine k_ 11 ?_
 refine lC [] call25 (c_r8At l A c hl v) ?_; intro x12
 refine k_ 10 ?_
 refine cc rfl ?_ ?_
 ·
  intro h14
  have hn : atP l v < 0 := of_decide_eq_true h14
  refine cs ?_
  refine cmono (fun a w h => nilSl (α := Patch) h) ?_
  refine k_ 9 ?_
  exact rR [] ⟨(((l, []), 81), ((A, c), (none, 0))), (takeP_no hn).symm⟩
 ·
  intro h14
  have hn : ¬ atP l v < 0 := of_decide_eq_false h14
  obtain ⟨k, hk1, hk2, _⟩ : ∃ k : Nat, ∃ h : k < l.length, atP l v = (k : Int) ∧ l[k].id = v ∧ ∀ j (hj : j < k), l[j].id ≠ v := by rcases atP_cases l v with ⟨h, _⟩ | h; omega; exact h
  have hDl : (l.drop k).length = l.length - k := List.length_drop
  have hfD : ∀ q ∈ l.drop k, q.fit := fun q hq => hf q (List.mem_of_mem_drop hq)
  refine cpure (St.cap (m := l.length) (c := c) Θ) ?_
  intro hc
  refine k_ 3 ?_
  refine cmono (fun a w h => subS (l' := l.drop k) (c := c) k l.length (by repeat (first | exact In.z | apply In.s)) (by omega) (Nat.le_refl _) hc (by rw [List.take_of_length_le (by simp)]) h) ?_
  refine cmono (fun a w h => subS (A := A) (l := l) (l' := l.take k) (c := c) 0 k (by repeat (first | exact In.z | apply In.s)) (by omega) (by omega) hc (by simp) h) ?_
  refine k_ 3 ?_
  refine ls (op (p_sll k (by omega) hc hk2 underlying27 sizeOf31 rfl rfl) rfl) ?_
  refine fixL (slen (m' := (l.drop k).length) (by omega)) ?_
  refine lC [] call54 (c_rGroup (l.drop k) (if c = k then A else A.map (·.add (k * Rp.size Patch))) (c - k) (by omega) hfD) ?_; rintro ⟨⟨⟨g, r⟩, ⟨⟨Ag, cg⟩, ⟨Ar, cR⟩⟩⟩, hg⟩
  dsimp only at hg
  have hG := group_GI8 hfD; rw [← hg] at hG; have hgl := hG.len; dsimp only at hgl
  refine k_ 9 ?_
  refine ls (o_bsl ([] : List Patch) underlying27 sizeOf31 zeroValue31 rfl Enum.d RV.d rfl (by decide) (by decide) rfl) ?_
  refine le ?_; intro b23
  refine k_ 2 ?_
  refine ls (op (p_slh k (by omega) hk2 underlying27 sizeOf31 rfl rfl) rfl) ?_
  refine fixL (slen (m' := (l.take k).length) (by rw [List.length_take]; omega)) ?_
  refine ls (o_appX (i := 0) underlying27 inf31 rfl (by decide) (by decide) rfl rfl (by simp only [List.length_nil, List.length_take]; omega) rfl Ω rfl) ?_
  refine le ?_; rintro ⟨A27, c27⟩
  refine k_ 1 ?_
  refine ls (o_appX (i := 0) underlying27 inf31 rfl (by decide) (by decide) rfl rfl (by simp only [List.length_append, List.length_nil, List.length_take]; omega) rfl Ω rfl) ?_
  refine le ?_; rintro ⟨A29, c29⟩
  refine lmono (fun a w h => freezeN (i := 0) rfl h) ?_
  refine k_ 8 ?_
  exact rR [] ⟨(((([] ++ l.take k) ++ r, g), 0), ((A29, c29), (Ag, cg))), by rw [takeP_yes hk2 hg]; simp⟩
end Go.Proofs.YtppjcjlijmldiaaGreatDoor.X
end
section
set_option linter.unusedVariables false
set_option linter.unusedSimpArgs false
namespace Go.Proofs.YtppjcjlijmldiaaGreatDoor.X
open Go Go.RowKit Go.Proofs Go.Sx
open Tryz
attribute [local irreducible] slA isA box row TrL TrC TrN TrA Pu OpR
set_option maxHeartbeats 8000000
theorem sameP_of {l m mo : List Patch} {e : Int} (ho : (mo, e) = orderP m (idsP l)) : sameP l m = (decide (e = 0) && decide (l = mo)) := by unfold sameP; rw [← ho]
set_option maxRecDepth 100000 in
theorem c_r8Order (l : List Patch) (A : Option Addr) (c : Nat) (hl : l.length ≤ 2000000) (hf : ∀ q ∈ l, q.fit) (hnd : (idsP l).Nodup) (ids : List Int) (B : Option Addr) (c' : Nat) (hids : ids.length ≤ 2000000) : Con Tryz.prog 45 [.slice A l.length c, .slice B ids.length c'] [] [slA A l, nilA (A, c), capA c l.length, slA B ids] {x : (List Patch × Int) × (Option Addr × Nat) // x.1 = orderP l ids} (fun x => .tuple #[.slice x.1.2.1 x.1.1.1.length x.1.2.2, .int .i64 x.1.1.2]) (fun _ => []) (fun x => [slA x.1.2.1 x.1.1.1, nilA x.1.2, capA x.1.2.2 x.1.1.1.length]) := by
 refine con func45 rfl ntmps45 rfl ?_
 intro M0 F0 w0
 refine k_ 16 ?_
 refine cc rfl ?_ ?_
 ·
  intro h18
  try simp only [nrmZ] at h18
  have hp : ¬ ids.Perm (idsP l) := fun h => by have h2 := h.length_eq; rw [idsP_len] at h2; exact absurd h18 (by simp [h2])
  refine k_ 9 ?_
  exact rR [] ⟨((l, 1), (A, c)), (orderP_arg hp).symm⟩
 ·
  intro h18
  try simp only [nrmZ] at h18
  have hln : ids.length = l.length := by have h := h18; omega
  refine k_ 9 ?_
  refine cl (ι := {k : Nat // k ≤ ids.length ∧ (∀ v ∈ ids.take k, v ∈ idsP l) ∧ (ids.take k).Nodup}) (fun i => St M0 F0 w0 96 [(0, .slice A l.length c), (1, .slice B ids.length c'), (6, .int .i64 ((i.1 : Nat) : Int))] [] [slA A l, nilA (A, c), capA c l.length, slA B ids]) (fun i => ids.length - i.1) ⟨0, Nat.zero_le _, (by intro v hv; rw [List.take_zero] at hv; cases hv), by rw [List.take_zero]; exact List.nodup_nil⟩ (wk0 Φ Ω) ?_
  rintro ⟨k, hk, hkm, hkn⟩
  refine cmono (S' := St M0 F0 w0 96 [(0, .slice A l.length c), (1, .slice B ids.length c'), (6, .int .i64 ((k : Nat) : Int))] [] [slA A l, nilA (A, c), capA c l.length, slA B ids]) Ħ ?_
  refine k_ 9 ?_
  refine cc rfl ?_ ?_
  ·
   intro h23
   try simp only [nrmZ] at h23
   have hk1 : k < ids.length := by omega
   refine k_ 6 ?_
   refine elC (A := B) (l := ids) Θ k (List.getElem?_eq_getElem (l := ids) hk1) ?_; rintro zbp zop zyp hAp
   refine k_ 4 ?_
   refine ls (op (p_ia k hAp hk1 rfl underlying28 sizeOf3 rfl rfl) rfl) ?_
   refine ls (o_ldi isAgg3 rfl Θ 0 rfl Δ rfl) ?_
   refine lC [] call25 (c_r8At l A c hl ids[k]) ?_; intro x31
   refine k_ 3 ?_
   refine cc rfl ?_ ?_
   ·
    intro h32
    have hno : ids[k] ∉ idsP l := fun h => by have h2 := at_mem.2 h; have h3 : atP l ids[k] < 0 := of_decide_eq_true h32; omega
    have hp : ¬ ids.Perm (idsP l) := fun h => hno (h.mem_iff.1 (List.getElem_mem hk1))
    refine k_ 9 ?_
    exact rR [] ⟨((l, 1), (A, c)), (orderP_arg hp).symm⟩
   ·
    intro h32
    have hyes : ids[k] ∈ idsP l := at_mem.1 (by have h3 : ¬ atP l ids[k] < 0 := of_decide_eq_false h32; omega)
    refine k_ 8 ?_
    refine cl (ι := {j : Nat // j ≤ k ∧ ids[k] ∉ ids.take j}) (fun i => St M0 F0 w0 96 [(0, .slice A l.length c), (1, .slice B ids.length c'), (6, .int .i64 (k : Int)), (7, .int .i64 ((i.1 : Nat) : Int))] [] [slA A l, nilA (A, c), capA c l.length, slA B ids]) (fun i => k - i.1) ⟨0, Nat.zero_le _, by rw [List.take_zero]; simp⟩ (wk0 Φ Ω) ?_
    rintro ⟨j, hj, hjn⟩
    refine cmono (S' := St M0 F0 w0 96 [(0, .slice A l.length c), (1, .slice B ids.length c'), (6, .int .i64 (k : Int)), (7, .int .i64 ((j : Nat) : Int))] [] [slA A l, nilA (A, c), capA c l.length, slA B ids]) Ħ ?_
    refine k_ 8 ?_
    refine cc rfl ?_ ?_
    ·
     intro h36
     try simp only [nrmZ] at h36
     have hj1 : j < k := by omega
     have hj2 : j < ids.length := by omega
     refine k_ 5 ?_
     refine elC (A := B) (l := ids) Θ j (List.getElem?_eq_getElem (l := ids) hj2) ?_; rintro zbp zop zyp hAp
     refine elC (A := B) (l := ids) Θ k (List.getElem?_eq_getElem (l := ids) hk1) ?_; rintro zbq zoq zyq hAq
     refine cd [] [(3, zbp, zop + j * Rp.size Int, _), (7, zbq, zoq + k * Rp.size Int, _)] TryzX.mixed (TOk.t (isInS Θ (k := 0) rfl (z := 1) Δ) (TOk.t (isInS Θ (k := 0) rfl (z := 1) Δ) TOk.d)) ?_
     refine u_ 0 2 ?_
     refine tk 2 rfl Ψ Υ gnone (TTany _) (p_ia j hAp hj2 rfl underlying28 sizeOf3 rfl rfl) rfl ?_
     refine u_ 3 3 ?_
     refine tk 6 rfl Ψ Υ gnone (TTany _) (p_ia k hAq hk1 rfl underlying28 sizeOf3 rfl rfl) rfl ?_
     refine u_ 7 2 ?_
     refine dn Ψ ?_
     refine k_ 1 ?_
     refine cc rfl ?_ ?_
     ·
      intro h47
      have hp : ¬ ids.Perm (idsP l) := fun h => by have h2 := (List.getElem_inj (h.nodup_iff.2 hnd)).1 (of_decide_eq_true h47); omega
      refine k_ 9 ?_
      exact rR [] ⟨((l, 1), (A, c)), (orderP_arg hp).symm⟩
     ·
      intro h47
      have hne : ¬ ids[j] = ids[k] := of_decide_eq_false h47
      refine k_ 8 ?_
      refine nnext ⟨j + 1, hj1, by rw [List.take_succ_eq_append_getElem hj2, List.mem_append, not_or]; exact ⟨hjn, fun h => hne (List.mem_singleton.1 h).symm⟩⟩ (by dsimp only; omega) (wK [])
    ·
     intro h36
     try simp only [nrmZ] at h36
     have hjk : j = k := by omega
     rw [hjk] at hjn
     have hkm2 : ∀ v ∈ ids.take (k + 1), v ∈ idsP l := by intro v hv; rw [List.take_succ_eq_append_getElem hk1] at hv; rcases List.mem_append.1 hv with hv | hv; exact hkm v hv; rw [List.mem_singleton.1 hv]; exact hyes
     have hkn2 : (ids.take (k + 1)).Nodup := by rw [List.take_succ_eq_append_getElem hk1, List.nodup_append]; exact ⟨hkn, by simp, fun a ha b hb e => hjn (by rw [← List.mem_singleton.1 hb, ← e]; exact ha)⟩
     refine k_ 11 ?_
     refine nnext ⟨k + 1, hk1, hkm2, hkn2⟩ (by dsimp only; omega) (wK [])
  ·
   intro h23
   try simp only [nrmZ] at h23
   rw [List.take_of_length_le (show ids.length ≤ k by omega)] at hkm hkn
   have hp : ids.Perm (idsP l) := perm_of hkn hkm (by rw [idsP_len]; exact hln)
   refine k_ 7 ?_
   refine ls (o_bsl ([] : List Patch) underlying27 sizeOf31 zeroValue31 rfl Enum.d RV.d rfl (by decide) (by decide) rfl) ?_
   refine le ?_; intro b49
   refine k_ 1 ?_
   refine ls (o_appX (i := 0) underlying27 inf31 rfl (by decide) (by decide) rfl rfl (by simp only [List.length_nil]; omega) rfl Ω rfl) ?_
   refine le ?_; rintro ⟨A51, c51⟩
   refine k_ 10 ?_
   refine cl (ι := {q : (Nat × List Patch) × (Option Addr × Nat) // q.1.1 ≤ ids.length ∧ OI l ids q.1.1 q.1.2}) (fun i => St M0 F0 w0 96 [(0, .slice A l.length c), (1, .slice B ids.length c'), (8, .slice i.1.2.1 l.length i.1.2.2), (9, .int .i64 ((i.1.1.1 : Nat) : Int))] [row 31 (i.1.2.1) (i.1.2.2) (i.1.1.2)] [slA A l, nilA (A, c), capA c l.length, slA B ids]) (fun i => ids.length - i.1.1.1) ⟨((0, l), (A51, c51)), Nat.zero_le _, OI.start l ids⟩ (wk0 Φ Ω) ?_
   rintro ⟨⟨⟨k, m⟩, ⟨Am, cm⟩⟩, hk, hI⟩
   refine cmono (S' := St M0 F0 w0 96 [(0, .slice A l.length c), (1, .slice B ids.length c'), (8, .slice Am l.length cm), (9, .int .i64 ((k : Nat) : Int))] [row 31 (Am) (cm) (m)] [slA A l, nilA (A, c), capA c l.length, slA B ids]) Ħ ?_
   refine k_ 9 ?_
   refine cc rfl ?_ ?_
   ·
    intro h55
    dsimp only at hk hI
    try simp only [nrmZ] at h55
    have hk1 : k < ids.length := by omega
    have hml := hI.len
    have hmf := hI.swp.fit hf
    obtain ⟨j, hj, hkj, hat, hid, hnin⟩ := hI.at hp hnd hk1
    have hsl : ((m.drop k).take (j - k)).length = j - k := by rw [List.length_take, List.length_drop]; omega
    have hsf : ∀ q ∈ ((m.drop k).take (j - k)), q.fit := fun q hq => hmf q (List.mem_of_mem_drop (List.mem_of_mem_take hq))
    have hDl : (m.drop (j + 1)).length = m.length - (j + 1) := List.length_drop
    have hTl : (m.take k).length = k := by rw [List.length_take]; omega
    have hsm := seg_eq hkj hj
    refine k_ 5 ?_
    refine elC (A := B) (l := ids) Θ k (List.getElem?_eq_getElem (l := ids) hk1) ?_; rintro zbp zop zyp hAp
    refine k_ 2 ?_
    refine fixL (slen (m' := m.length) hml.symm) ?_
    refine k_ 2 ?_
    refine ls (op (p_ia k hAp hk1 rfl underlying28 sizeOf3 rfl rfl) rfl) ?_
    refine ls (o_ldi isAgg3 rfl Θ 0 rfl Δ rfl) ?_
    refine lC [0] call25 (borrow (c_r8At m Am cm (by omega) ids[k]) (fun _ z hz => by cases hz)) ?_; intro u63
    refine fixL (v' := .int .i64 ((j : Nat) : Int)) (congrArg (Value.int .i64) hat) ?_
    refine k_ 4 ?_
    refine cl (ι := {q : (Nat × Patch) × List Patch × (Option Addr × Nat) // q.1.1 ≤ j - k ∧ PP ((m.drop k).take (j - k)) m[j] q.1.1 q.1.2 q.2.1}) (fun i => St M0 F0 w0 96 [(0, .slice A l.length c), (1, .slice B ids.length c'), (8, .slice i.1.2.2.1 l.length i.1.2.2.2), (9, .int .i64 (k : Int)), (10, .int .i64 ((j - i.1.1.1 : Nat) : Int))] [row 31 (i.1.2.2.1) (i.1.2.2.2) (m.take k ++ (((m.drop k).take (j - k)).take (j - k - i.1.1.1) ++ (i.1.1.2 :: (i.1.2.1 ++ m.drop (j + 1)))))] [slA A l, nilA (A, c), capA c l.length, slA B ids]) (fun i => j - k - i.1.1.1) ⟨((0, m[j]), [], (Am, cm)), Nat.zero_le _, PP.start (hmf _ (List.getElem_mem hj))⟩ (fun a w h => by dsimp only; rw [Nat.sub_zero, Nat.sub_zero, List.take_of_length_le (l := ((m.drop k).take (j - k))) (by omega), List.nil_append, ← hsm, List.take_append_drop]; exact wL [0] h) ?_
    rintro ⟨⟨⟨t, q⟩, rest, ⟨A2, c2⟩⟩, ht, hPP⟩
    refine cmono (S' := St M0 F0 w0 96 [(0, .slice A l.length c), (1, .slice B ids.length c'), (8, .slice A2 l.length c2), (9, .int .i64 (k : Int)), (10, .int .i64 ((j - t : Nat) : Int))] [row 31 (A2) (c2) (m.take k ++ (((m.drop k).take (j - k)).take (j - k - t) ++ (q :: (rest ++ m.drop (j + 1)))))] [slA A l, nilA (A, c), capA c l.length, slA B ids]) Ħ ?_
    refine k_ 8 ?_
    refine cc rfl ?_ ?_
    ·
     intro h66
     dsimp only at ht hPP
     try simp only [nrmZ] at h66
     obtain ⟨u, hu⟩ : ∃ u, u + t + 1 = j - k := ⟨j - k - t - 1, by omega⟩
     have hu1 : u < ((m.drop k).take (j - k)).length := by omega
     have hrl := hPP.len
     have hfu := hsf _ (List.getElem_mem hu1)
     have hSt : (((m.drop k).take (j - k)).take u).length = u := by rw [List.length_take]; omega
     have eR : m.take k ++ (((m.drop k).take (j - k)).take (j - k - t) ++ (q :: (rest ++ m.drop (j + 1)))) = m.take k ++ (((m.drop k).take (j - k)).take u ++ (((m.drop k).take (j - k))[u] :: q :: (rest ++ m.drop (j + 1)))) := by rw [show j - k - t = u + 1 by omega, List.take_succ_eq_append_getElem hu1]; simp
     rw [eR]
     refine rowC (α := Patch) Θ (by intro e; simp at e) ?_; rintro g rfl
     refine k_ 5 ?_
     refine cmono (fun a w h => pin0 (α := Patch) Θ Θ h) ?_
     refine pinC (α := Patch) (k + u) Θ (mid_get1 (by omega)) (fun _ => Θ) ?_; intro yp
     refine pinC (α := Patch) (k + u + 1) Θ (mid_get2 (by omega)) (fun _ => Θ) ?_; intro yq
     refine cutC (S' := fun a w => ∃ (b11 : Nat) (b12 : Nat) (r1 : Patch) (r2 : Patch) (r3 : Bool) (z1 : Rp.Lay Patch) (z2 : Rp.Lay Patch) (hr : (r1, r2, r3) = pswap ((m.drop k).take (j - k))[u] q), St M0 F0 w0 96 [(0, .slice A l.length c), (1, .slice B ids.length c'), (8, .slice (some ⟨g, 0, none⟩) l.length c2), (9, .int .i64 (k : Int)), (10, .int .i64 ((j - t : Nat) : Int)), (11, .pointer (some ⟨b11, 0, none⟩)), (12, .pointer (some ⟨b12, 0, none⟩)), (13, .bool r3)] [rowPin 31 g c2 (m.take k ++ (((m.drop k).take (j - k)).take u ++ (((m.drop k).take (j - k))[u] :: q :: (rest ++ m.drop (j + 1))))) [(k + u + 1, q, yq), (k + u, ((m.drop k).take (j - k))[u], yp)], box b11 31 (Rp.enc r1 z1), box b12 31 (Rp.enc r2 z2)] [slA z1.1.1 r1.deps, slA z1.2.1 r1.l, capA z1.2.2 r1.l.length, slA z2.1.1 r2.deps, slA z2.2.1 r2.l, capA z2.2.2 r2.l.length, slA A l, nilA (A, c), capA c l.length, slA B ids] a w) ?_ ?_
     ·
      refine cd [9, 14, 15, 16, 17] [(4, g, 0 + (k + u) * Rp.size Patch, _), (8, g, 0 + (k + u + 1) * Rp.size Patch, _)] TryzX.mixed (TOk.t (isPin Θ (List.Mem.tail _ (List.Mem.head _))) (TOk.t (isPin Θ (List.Mem.head _)) TOk.d)) ?_
      refine u_ 0 3 ?_
      refine tk 3 rfl Ψ Υ gnone (TTany _) (p_ia (k + u) rfl (by omega) (by omega) underlying27 sizeOf31 rfl rfl) rfl ?_
      refine u_ 4 3 ?_
      refine tk 7 rfl Ψ Υ gnone (TTany _) (p_ia (k + u + 1) rfl (by omega) (by omega) underlying27 sizeOf31 rfl rfl) rfl ?_
      refine u_ 8 1 ?_
      refine dall (is := [9, 14, 15]) Ψ rfl ?_
      intro i hi; simp only [List.mem_cons, List.mem_nil_iff, or_false] at hi; rcases hi with rfl | rfl | rfl
      ·
       refine doR rfl (o_call (is := []) call81 (c_rSwap ((m.drop k).take (j - k))[u] q yp yq hfu hPP.fq) rfl rfl Ω rfl) tX ?_
       refine ea ?_; rintro ⟨⟨⟨r1, r2, r3⟩, z1, z2⟩, hr⟩
       dsimp only at hr
       refine u_ 10 4 ?_
       refine dall (is := [14, 15]) Ψ rfl ?_
       intro i hi; simp only [List.mem_cons, List.mem_nil_iff, or_false] at hi; rcases hi with rfl | rfl
       ·
        refine doR rfl (o_alloc zeroValue31 rfl rfl) tX ?_
        refine ea ?_; intro b11
        refine df 15 Ψ ?_
        refine doR rfl (o_alloc zeroValue31 rfl rfl) tX ?_
        refine ea ?_; intro b12
        refine df 16 Ψ ?_
        refine doR rfl (o_st rfl sizeOf31 rfl rfl rfl rfl rfl Θ Θ Θ) tX ?_
        refine df 17 Ψ ?_
        refine doR rfl (o_st rfl sizeOf31 rfl rfl rfl rfl rfl Θ Θ Θ) tX ?_
        refine u_ 18 1 ?_
        refine dn Ψ (nmid (fun a w h => by first | exact ⟨b11, b12, r1, r2, r3, z1, z2, hr, wL [2, 1, 0] h⟩ | exact ⟨b11, b12, r1, r2, r3, z1, z2, hr, wL [2, 0, 0] h⟩))
       ·
        refine doR rfl (o_alloc zeroValue31 rfl rfl) tX ?_
        refine ea ?_; intro b12
        refine df 14 Ψ ?_
        refine doR rfl (o_alloc zeroValue31 rfl rfl) tX ?_
        refine ea ?_; intro b11
        refine df 16 Ψ ?_
        refine doR rfl (o_st rfl sizeOf31 rfl rfl rfl rfl rfl Θ Θ Θ) tX ?_
        refine df 17 Ψ ?_
        refine doR rfl (o_st rfl sizeOf31 rfl rfl rfl rfl rfl Θ Θ Θ) tX ?_
        refine u_ 18 1 ?_
        refine dn Ψ (nmid (fun a w h => by first | exact ⟨b11, b12, r1, r2, r3, z1, z2, hr, wL [2, 1, 0] h⟩ | exact ⟨b11, b12, r1, r2, r3, z1, z2, hr, wL [2, 0, 0] h⟩))
      ·
       refine doR rfl (o_alloc zeroValue31 rfl rfl) (TOk.t (isBoxE fun _ => isPin Θ (List.Mem.tail _ (List.Mem.head _))) (TOk.t (isBoxE fun _ => isPin Θ (List.Mem.head _)) TOk.d)) ?_
       refine ea ?_; intro b11
       refine dall (is := [9, 15]) Ψ rfl ?_
       intro i hi; simp only [List.mem_cons, List.mem_nil_iff, or_false] at hi; rcases hi with rfl | rfl
       ·
        refine doR rfl (o_call (is := []) call81 (c_rSwap ((m.drop k).take (j - k))[u] q yp yq hfu hPP.fq) rfl rfl Ω rfl) tX ?_
        refine ea ?_; rintro ⟨⟨⟨r1, r2, r3⟩, z1, z2⟩, hr⟩
        dsimp only at hr
        refine u_ 10 4 ?_
        refine df 15 Ψ ?_
        refine doR rfl (o_alloc zeroValue31 rfl rfl) tX ?_
        refine ea ?_; intro b12
        refine df 16 Ψ ?_
        refine doR rfl (o_st rfl sizeOf31 rfl rfl rfl rfl rfl Θ Θ Θ) tX ?_
        refine df 17 Ψ ?_
        refine doR rfl (o_st rfl sizeOf31 rfl rfl rfl rfl rfl Θ Θ Θ) tX ?_
        refine u_ 18 1 ?_
        refine dn Ψ (nmid (fun a w h => by first | exact ⟨b11, b12, r1, r2, r3, z1, z2, hr, wL [2, 1, 0] h⟩ | exact ⟨b11, b12, r1, r2, r3, z1, z2, hr, wL [2, 0, 0] h⟩))
       ·
        refine doR rfl (o_alloc zeroValue31 rfl rfl) (TOk.t (isBoxE fun _ => isPin Θ (List.Mem.tail _ (List.Mem.head _))) (TOk.t (isBoxE fun _ => isPin Θ (List.Mem.head _)) TOk.d)) ?_
        refine ea ?_; intro b12
        refine df 9 Ψ ?_
        refine doR rfl (o_call (is := []) call81 (c_rSwap ((m.drop k).take (j - k))[u] q yp yq hfu hPP.fq) rfl rfl Ω rfl) tX ?_
        refine ea ?_; rintro ⟨⟨⟨r1, r2, r3⟩, z1, z2⟩, hr⟩
        dsimp only at hr
        refine u_ 10 4 ?_
        refine df 16 Ψ ?_
        refine doR rfl (o_st rfl sizeOf31 rfl rfl rfl rfl rfl Θ Θ Θ) tX ?_
        refine df 17 Ψ ?_
        refine doR rfl (o_st rfl sizeOf31 rfl rfl rfl rfl rfl Θ Θ Θ) tX ?_
        refine u_ 18 1 ?_
        refine dn Ψ (nmid (fun a w h => by first | exact ⟨b11, b12, r1, r2, r3, z1, z2, hr, wL [2, 1, 0] h⟩ | exact ⟨b11, b12, r1, r2, r3, z1, z2, hr, wL [2, 0, 0] h⟩))
      ·
       refine doR rfl (o_alloc zeroValue31 rfl rfl) (TOk.t (isBoxE fun _ => isPin Θ (List.Mem.tail _ (List.Mem.head _))) (TOk.t (isBoxE fun _ => isPin Θ (List.Mem.head _)) TOk.d)) ?_
       refine ea ?_; intro b12
       refine dall (is := [9, 14]) Ψ rfl ?_
       intro i hi; simp only [List.mem_cons, List.mem_nil_iff, or_false] at hi; rcases hi with rfl | rfl
       ·
        refine doR rfl (o_call (is := []) call81 (c_rSwap ((m.drop k).take (j - k))[u] q yp yq hfu hPP.fq) rfl rfl Ω rfl) tX ?_
        refine ea ?_; rintro ⟨⟨⟨r1, r2, r3⟩, z1, z2⟩, hr⟩
        dsimp only at hr
        refine u_ 10 4 ?_
        refine df 14 Ψ ?_
        refine doR rfl (o_alloc zeroValue31 rfl rfl) tX ?_
        refine ea ?_; intro b11
        refine df 16 Ψ ?_
        refine doR rfl (o_st rfl sizeOf31 rfl rfl rfl rfl rfl Θ Θ Θ) tX ?_
        refine df 17 Ψ ?_
        refine doR rfl (o_st rfl sizeOf31 rfl rfl rfl rfl rfl Θ Θ Θ) tX ?_
        refine u_ 18 1 ?_
        refine dn Ψ (nmid (fun a w h => by first | exact ⟨b11, b12, r1, r2, r3, z1, z2, hr, wL [2, 1, 0] h⟩ | exact ⟨b11, b12, r1, r2, r3, z1, z2, hr, wL [2, 0, 0] h⟩))
       ·
        refine doR rfl (o_alloc zeroValue31 rfl rfl) (TOk.t (isBoxE fun _ => isPin Θ (List.Mem.tail _ (List.Mem.head _))) (TOk.t (isBoxE fun _ => isPin Θ (List.Mem.head _)) TOk.d)) ?_
        refine ea ?_; intro b11
        refine df 9 Ψ ?_
        refine doR rfl (o_call (is := []) call81 (c_rSwap ((m.drop k).take (j - k))[u] q yp yq hfu hPP.fq) rfl rfl Ω rfl) tX ?_
        refine ea ?_; rintro ⟨⟨⟨r1, r2, r3⟩, z1, z2⟩, hr⟩
        dsimp only at hr
        refine u_ 10 4 ?_
        refine df 16 Ψ ?_
        refine doR rfl (o_st rfl sizeOf31 rfl rfl rfl rfl rfl Θ Θ Θ) tX ?_
        refine df 17 Ψ ?_
        refine doR rfl (o_st rfl sizeOf31 rfl rfl rfl rfl rfl Θ Θ Θ) tX ?_
        refine u_ 18 1 ?_
        refine dn Ψ (nmid (fun a w h => by first | exact ⟨b11, b12, r1, r2, r3, z1, z2, hr, wL [2, 1, 0] h⟩ | exact ⟨b11, b12, r1, r2, r3, z1, z2, hr, wL [2, 0, 0] h⟩))
     ·
      refine nex fun b11 => nex fun b12 => nex fun r1 => nex fun r2 => nex fun r3 => nex fun z1 => nex fun z2 => nex fun hr => ?_
      refine k_ 8 ?_
      refine cc rfl ?_ ?_
      ·
       intro h84
       obtain rfl : false = r3 := by cases r3 <;> first | rfl | (simp at h84)
       have hst := hPP.stop (by omega) hr
       have hno := orderP_none hp (hI.stop hk1 hj hkj hid hnin hst.symm)
       refine k_ 9 ?_
       exact rR [] ⟨((l, 83), (A, c)), hno.symm⟩
      ·
       intro h84
       obtain rfl : true = r3 := by cases r3 <;> first | rfl | (simp at h84)
       refine k_ 3 ?_
       refine cmono (fun a w h => unpin (α := Patch) Θ Θ h) ?_
       refine k_ 4 ?_
       refine ls (o_ldw isAgg31 sizeOf31 rfl Θ (by rfl) rfl) ?_
       refine ls (op (p_ia (k + u) rfl (by omega) (by omega) underlying27 sizeOf31 rfl rfl) rfl) ?_
       refine ls (o_strow (z := r1) (yz := z1) rfl sizeOf31 rfl rfl rfl Θ (by simp; omega) Θ Ω) ?_
       refine k_ 5 ?_
       refine ls (o_ldw isAgg31 sizeOf31 rfl Θ (by rfl) rfl) ?_
       refine ls (op (p_ia (k + u + 1) rfl (by omega) (by omega) underlying27 sizeOf31 rfl rfl) rfl) ?_
       refine ls (o_strow (z := r2) (yz := z2) rfl sizeOf31 rfl rfl rfl Θ (by simp; omega) Θ Ω) ?_
       refine k_ 8 ?_
       rw [mid_set (by omega)]
       refine nmono (fun a w h => rowEq (α := Patch) (l' := m.take k ++ (((m.drop k).take (j - k)).take (j - k - (t + 1)) ++ (r1 :: ((r2 :: rest) ++ m.drop (j + 1))))) Θ (by rw [show j - k - (t + 1) = u by omega]; simp) Θ h) ?_
       refine nnext ⟨((t + 1, r1), r2 :: rest, (some ⟨g, 0, none⟩, c2)), by dsimp only; omega, hPP.step (by omega) hsf hr⟩ (by dsimp only; omega) (fun a w h => by dsimp only; rw [show ((j - (t + 1) : Nat) : Int) = ((j - t : Nat) : Int) - 1 by omega]; exact wL [0] h)
    ·
     intro h66
     dsimp only at ht hPP
     try simp only [nrmZ] at h66
     obtain rfl : t = j - k := by omega
     have hdn := hPP.done hsl.symm
     refine k_ 11 ?_
     refine nmono (fun a w h => rowEq (α := Patch) (l' := m.take k ++ q :: (rest ++ m.drop (j + 1))) Θ (by rw [Nat.sub_self]; simp) Θ h) ?_
     refine nnext ⟨((k + 1, m.take k ++ q :: (rest ++ m.drop (j + 1))), (A2, c2)), hk1, hI.step hk1 hj hkj hid hnin hdn.symm⟩ (by dsimp only; omega) (wk0 Φ Ω)
   ·
    intro h55
    dsimp only at hk hI
    try simp only [nrmZ] at h55
    have hd := orderP_some hp (hI.done (by omega))
    have hml := hI.len
    refine k_ 6 ?_
    refine cmono (fun a w h => freezeN (i := 0) rfl h) ?_
    refine k_ 8 ?_
    refine rret (is := []) ⟨((m, 0), (Am, cm)), hd.symm⟩ (Or.inl rfl) (Res.t rfl (Res.t rfl Res.d)) ?_ rfl Ω
    dsimp only [packV]; rw [hml]
set_option maxRecDepth 100000 in
theorem c_r8Same (l m : List Patch) (A B : Option Addr) (c c' : Nat) (hl : l.length ≤ 2000000) (hlm : m.length ≤ 2000000) (hf : ∀ q ∈ l, q.fit) (hfm : ∀ q ∈ m, q.fit) (hnm : (idsP m).Nodup) : Con Tryz.prog 40 [.slice A l.length c, .slice B m.length c'] [] [slA A l, slA B m, nilA (B, c'), capA c' m.length] Unit (fun _ => .bool (sameP l m)) (fun _ => []) (fun _ => []) := by
 refine con func40 rfl ntmps40 rfl ?_
 intro M0 F0 w0
 refine k_ 6 ?_
 refine cmono (fun a w h => nilRow (α := Int) 3 h) ?_
 refine k_ 11 ?_
 refine cl (ι := {q : Nat × (Option Addr × Nat) // q.1 ≤ l.length}) (fun i => St M0 F0 w0 36 [(0, .slice A l.length c), (1, .slice B m.length c'), (5, .slice i.1.2.1 (idsP (l.take i.1.1)).length i.1.2.2), (6, .int .i64 ((i.1.1 : Nat) : Int))] [row 3 (i.1.2.1) (i.1.2.2) (idsP (l.take i.1.1))] [slA A l, slA B m, nilA (B, c'), capA c' m.length]) (fun i => l.length - i.1.1) ⟨(0, (none, 0)), Nat.zero_le _⟩ (wk0 Φ Ω) ?_
 rintro ⟨⟨k, ⟨A5, c5⟩⟩, hk⟩
 refine cmono (S' := St M0 F0 w0 36 [(0, .slice A l.length c), (1, .slice B m.length c'), (5, .slice A5 (idsP (l.take k)).length c5), (6, .int .i64 ((k : Nat) : Int))] [row 3 (A5) (c5) (idsP (l.take k))] [slA A l, slA B m, nilA (B, c'), capA c' m.length]) Ħ ?_
 refine k_ 9 ?_
 refine cc rfl ?_ ?_
 ·
  intro h12
  dsimp only at hk
  try simp only [nrmZ] at h12
  have hk1 : k < l.length := by omega
  refine k_ 4 ?_
  refine elC (A := A) (l := l) Θ k (List.getElem?_eq_getElem (l := l) hk1) ?_; rintro zbp zop zyp hAp
  refine k_ 4 ?_
  refine ls (op (p_ia k hAp hk1 rfl underlying27 sizeOf31 rfl rfl) rfl) ?_
  refine k_ 1 ?_
  refine ls (o_ldi isAgg3 rfl Θ 0 rfl Δ rfl) ?_
  refine ls (o_bsl [l[k].id] underlying28 sizeOf3 zeroValue3 rfl (Enum.t Enum.d) (RV.t () rfl Ω RV.d) rfl (by decide) (by decide) rfl) ?_
  refine le ?_; intro b21
  refine lmono (fun a w h => Go.Sx.freeze (i := 0) rfl h) ?_
  refine ls (o_appX (i := 0) underlying28 inf3 rfl (by decide) (by decide) rfl rfl (by simp only [idsP, List.length_map, List.length_take, List.length_cons, List.length_nil]; omega) rfl Ω rfl) ?_
  refine le ?_; rintro ⟨A22, c22⟩
  refine k_ 9 ?_
  refine nnext ⟨(k + 1, (A22, c22)), hk1⟩ (by dsimp only; omega) (fun a w h => by dsimp only; rw [ids_take hk1]; exact wL [0] h)
 ·
  intro h12
  dsimp only at hk
  try simp only [nrmZ] at h12
  obtain rfl : k = l.length := by omega
  rw [List.take_length]
  refine k_ 6 ?_
  refine cmono (fun a w h => Go.Sx.freeze (i := 0) rfl h) ?_
  refine k_ 3 ?_
  refine lC [] call45 (c_r8Order m B c' hlm hfm hnm (idsP l) A5 c5 (by rw [idsP_len]; exact hl)) ?_; rintro ⟨⟨⟨mo, e26⟩, ⟨A26, c26⟩⟩, ho⟩
  dsimp only at ho
  have hmo : ∀ q ∈ mo, q.fit := by have h := (orderP_swp m (idsP l)).fit hfm; rw [← ho] at h; exact h
  refine k_ 12 ?_
  refine andX 4 31 35 rfl (sL [0, 1, 5, 6, 9, 10, 11, 12, 24, 25, 26, 23, 27, 28]) ?_ ?_
  ·
   intro h31
   refine k_ 4 ?_
   refine ln (nmid (wk0 Φ Ω))
  apply exI
  ·
   intro h31
   refine k_ 2 ?_
   refine lwant rfl rfl rfl rfl (o_call (is := []) call15 (c_rAll l mo A A26 c c26 hl hf hmo) rfl rfl Ω rfl) ?_
   refine le ?_; intro x34
   refine k_ 1 ?_
   refine ln (nmid (wk0 Φ Ω))
  ·
   refine k_ 5 ?_
   refine rret (is := []) () (Or.inl rfl) (Res.t rfl Res.d) ?_ rfl Ω
   exact congrArg Value.bool (sameP_of ho).symm
set_option maxRecDepth 100000 in
theorem c_r8Do (l : List Patch) (A : Option Addr) (c : Nat) (hl : l.length ≤ 2000000) (hf : ∀ q ∈ l, q.fit) (hz : lns (pl l) ≤ 600000) (hy : (pl l).length ≤ 600000) (hnd : (idsP l).Nodup) (o : LOp) (y : Rp.Lay LOp) (hq : o.p.fit) (hqz : lns o.p.l ≤ 600000) (hqy : o.p.l.length ≤ 600000) (hids : o.ids.length ≤ 2000000) : Con Tryz.prog 13 [.slice A l.length c, sv o y] [] [slA A l, nilA (A, c), capA c l.length, slA y.1.1.1 o.p.deps, slA y.1.2.1 o.p.l, capA y.1.2.2 o.p.l.length, slA y.2.1 o.ids] {x : ((List Patch × List Patch) × Int) × ((Option Addr × Nat) × (Option Addr × Nat)) // x.1 = doL l o} (fun x => .tuple #[.slice x.1.2.1.1 x.1.1.1.1.length x.1.2.1.2, .slice x.1.2.2.1 x.1.1.1.2.length x.1.2.2.2, .int .i64 x.1.1.2]) (fun _ => []) (fun x => [slA x.1.2.1.1 x.1.1.1.1, nilA x.1.2.1, capA x.1.2.1.2 x.1.1.1.1.length, slA x.1.2.2.1 x.1.1.1.2]) := by
 refine con func13 rfl ntmps13 rfl ?_
 intro M0 F0 w0
 refine k_ 2 ?_
 refine ls (o_box rfl rfl rfl) ?_
 refine le ?_; intro b3
 refine k_ 19 ?_
 refine cc rfl ?_ ?_
 ·
  intro h15
  have hk0 : o.kind = 0 := of_decide_eq_true h15
  refine k_ 5 ?_
  refine lC [] call43 (c_r8Add l A c hl hf hz hy o.p y.1 hq hqz hqy) ?_; rintro ⟨⟨⟨n1, e1⟩, ⟨A1, c1⟩⟩, ho⟩
  dsimp only at ho
  refine k_ 8 ?_
  refine cmono (fun a w h => nilSl (α := Patch) h) ?_
  refine k_ 10 ?_
  exact rR [] ⟨(((n1, []), e1), ((A1, c1), (none, 0))), by unfold doL; rw [if_pos hk0, ← ho]⟩
 ·
  intro h15
  have hk0 : ¬ o.kind = 0 := of_decide_eq_false h15
  refine k_ 6 ?_
  refine cc rfl ?_ ?_
  ·
   intro h26
   have hk1 : o.kind = 1 := of_decide_eq_true h26
   refine k_ 5 ?_
   refine lC [] call44 (c_r8Last l A c hl hf o.id) ?_; rintro ⟨⟨⟨n1, e1⟩, ⟨A1, c1⟩⟩, ho⟩
   dsimp only at ho
   refine k_ 8 ?_
   refine cmono (fun a w h => nilSl (α := Patch) h) ?_
   refine k_ 10 ?_
   exact rR [] ⟨(((n1, []), e1), ((A1, c1), (none, 0))), by unfold doL; rw [if_neg hk0, if_pos hk1, ← ho]⟩
  ·
   intro h26
   have hk1 : ¬ o.kind = 1 := of_decide_eq_false h26
   refine k_ 6 ?_
   refine cc rfl ?_ ?_
   ·
    intro h37
    have hk2 : o.kind = 2 := of_decide_eq_true h37
    refine k_ 8 ?_
    refine cc rfl ?_ ?_
    ·
     intro h41
     have h0 : ¬ 0 < l.length := by have h := h41; simp at h; simp [h]
     refine cs ?_
     refine cmono (fun a w h => nilSl (α := Patch) h) ?_
     refine k_ 9 ?_
     exact rR [] ⟨(((l, []), 0), ((A, c), (none, 0))), by unfold doL; rw [if_neg hk0, if_neg hk1, if_pos hk2]; unfold dropD; rw [dif_neg h0]⟩
    ·
     intro h41
     have h0 : 0 < l.length := by have h := h41; simp at h; exact List.length_pos_iff.2 h
     refine cpure (St.cap (m := l.length) (c := c) Θ) ?_
     intro hc
     refine nilP (y := (A, c)) Θ (fun hA => ?_)
     refine k_ 3 ?_
     refine cmono (fun a w h => subS (A := A) (l := l) (l' := l.take (l.length - 1)) (c := c) 0 (l.length - 1) (by repeat (first | exact In.z | apply In.s)) (by omega) (by omega) hc (by simp) h) ?_
     refine cmono (fun a w h => nilQ (y := ((if c = 0 then A else A.map (·.add (0 * Rp.size Patch))), c - 0)) (fun e => sub_nil hA e) h) ?_
     refine cmono (fun a w h => capQ (c := c - 0) (m := (l.take (l.length - 1)).length) (by rw [List.length_take]; omega) h) ?_
     refine cmono (fun a w h => subS (A := A) (l := l) (l' := [l[l.length - 1]]) (c := c) (l.length - 1) l.length (by repeat (first | exact In.z | apply In.s)) (by omega) (Nat.le_refl _) hc (by rw [List.drop_eq_getElem_cons (show l.length - 1 < l.length by omega), show l.length - (l.length - 1) = 1 by omega]; rfl) h) ?_
     refine cd [] [] TryzX.mixed TOk.d ?_
     refine u_ 0 4 ?_
     refine tk 4 rfl Ψ Υ gnone (TTany _) (p_slh (l.length - 1) (by omega) (by omega) underlying27 sizeOf31 rfl rfl) rfl ?_
     refine fixA (slen (m' := (l.take (l.length - 1)).length) (by rw [List.length_take]; omega)) ?_
     refine u_ 5 4 ?_
     refine tk 9 rfl Ψ Υ gnone (TTany _) (p_sll (l.length - 1) (by omega) hc (by omega) underlying27 sizeOf31 rfl rfl) rfl ?_
     refine fixA (slen (m' := [l[l.length - 1]].length) (by simp only [List.length_cons, List.length_nil]; omega)) ?_
     refine u_ 10 3 ?_
     refine dn Ψ ?_
     refine k_ 3 ?_
     exact rR [] ⟨(((l.take (l.length - 1), [l[l.length - 1]]), 0), (((if c = 0 then A else A.map (·.add (0 * Rp.size Patch))), c - 0), ((if c = l.length - 1 then A else A.map (·.add ((l.length - 1) * Rp.size Patch))), c - (l.length - 1)))), by unfold doL; rw [if_neg hk0, if_neg hk1, if_pos hk2]; unfold dropD; rw [dif_pos h0]⟩
   ·
    intro h37
    have hk2 : ¬ o.kind = 2 := of_decide_eq_false h37
    refine k_ 6 ?_
    refine cc rfl ?_ ?_
    ·
     intro h53
     have hk3 : o.kind = 3 := of_decide_eq_true h53
     refine k_ 5 ?_
     refine lC [] call26 (c_r8Take l A c hl hf o.id) ?_; rintro ⟨⟨⟨⟨n1, g1⟩, e1⟩, ⟨⟨A1, c1⟩, ⟨A2, c2⟩⟩⟩, ho⟩
     dsimp only at ho
     refine k_ 10 ?_
     exact rR [] ⟨(((n1, g1), e1), ((A1, c1), (A2, c2))), by unfold doL; rw [if_neg hk0, if_neg hk1, if_neg hk2, if_pos hk3, ← ho]⟩
    ·
     intro h53
     have hk3 : ¬ o.kind = 3 := of_decide_eq_false h53
     refine k_ 6 ?_
     refine cc rfl ?_ ?_
     ·
      intro h62
      have hk4 : o.kind = 4 := of_decide_eq_true h62
      refine k_ 5 ?_
      refine lC [] call45 (c_r8Order l A c hl hf hnd o.ids y.2.1 y.2.2 hids) ?_; rintro ⟨⟨⟨n1, e1⟩, ⟨A1, c1⟩⟩, ho⟩
      dsimp only at ho
      refine k_ 8 ?_
      refine cmono (fun a w h => nilSl (α := Patch) h) ?_
      refine k_ 10 ?_
      exact rR [] ⟨(((n1, []), e1), ((A1, c1), (none, 0))), by unfold doL; rw [if_neg hk0, if_neg hk1, if_neg hk2, if_neg hk3, if_pos hk4, ← ho]⟩
     ·
      intro h62
      have hk4 : ¬ o.kind = 4 := of_decide_eq_false h62
      refine k_ 4 ?_
      refine cmono (fun a w h => nilSl (α := Patch) h) ?_
      refine k_ 9 ?_
      exact rR [] ⟨(((l, []), 0), ((A, c), (none, 0))), by unfold doL; rw [if_neg hk0, if_neg hk1, if_neg hk2, if_neg hk3, if_neg hk4]⟩
end Go.Proofs.YtppjcjlijmldiaaGreatDoor.X
end
section
set_option linter.unusedVariables false
set_option linter.unusedSimpArgs false
namespace Go.Proofs.YtppjcjlijmldiaaGreatDoor.X
open Go Go.RowKit Go.Proofs Go.Sx
open Tryz
attribute [local irreducible] slA isA box row TrL TrC TrN TrA Pu OpR
set_option maxHeartbeats 8000000
def few8 (ops : List LOp) : Bool := decide ((ops.length : Int) ≤ 24) && decide ((((ops.map (fun o : LOp => pmany [o.p])).sum : Nat) : Int) ≤ 8000) && decide ((((ops.map (fun o : LOp => o.ids.length + o.p.l.length)).sum : Nat) : Int) ≤ 120)
theorem pl_lns8 (l : List Patch) : lns (pl l) ≤ pmany l := by
 unfold pmany
 induction l with
 | nil => exact Nat.le_refl _
 | cons p l ih =>
  rw [pl_cons, lns_app]
  simp only [List.map_cons, List.sum_cons]
  have h1 := lns_many p.l
  have h2 : Sx.many p.l ≤ p.many := by unfold Patch.many; omega
  omega
theorem few8_yes {ops : List LOp} (h : few8 ops = true) : ops.length ≤ 24 ∧ omz ops ≤ 8000 ∧ omy ops ≤ 120 ∧ ∀ o ∈ ops, o.ids.length ≤ 120 := by
 unfold few8 at h
 simp only [Bool.and_eq_true, decide_eq_true_eq] at h
 obtain ⟨⟨h1, h2⟩, h3⟩ := h
 have h4 : omz ops ≤ (ops.map (fun o : LOp => pmany [o.p])).sum := by
  unfold omz
  clear h1 h2 h3
  induction ops with
  | nil => exact Nat.le_refl _
  | cons o ops ih =>
   simp only [List.map_cons, List.sum_cons]
   have := pl_lns8 [o.p]
   rw [pl_one] at this
   omega
 have h5 : omy ops ≤ (ops.map (fun o : LOp => o.ids.length + o.p.l.length)).sum := by
  unfold omy
  clear h1 h2 h3 h4
  induction ops with
  | nil => exact Nat.le_refl _
  | cons o ops ih =>
   simp only [List.map_cons, List.sum_cons]
   omega
 have h6 : ∀ o ∈ ops, o.ids.length ≤ (ops.map (fun o : LOp => o.ids.length + o.p.l.length)).sum := by
  clear h1 h2 h3 h4 h5
  induction ops with
  | nil => intro o ho; cases ho
  | cons x ops ih =>
   intro o ho
   simp only [List.map_cons, List.sum_cons]
   rcases List.mem_cons.1 ho with rfl | ho
   ·
    omega
   ·
    have := ih o ho; omega
 exact ⟨by omega, by omega, by omega, fun o ho => by have := h6 o ho; omega⟩
theorem told_len {mm nn : Nat} {l l1 g1 : List Patch} {T : List File} {o : LOp} {e1 : Int} (h : LogI mm nn l T) (ho : ((l1, g1), e1) = doL l o) (hn : nn ≤ 1000000) : g1.length ≤ 2000000 := by
 have hl := h.len
 unfold doL at ho
 split at ho
 ·
  rw [(Prod.mk.inj (Prod.mk.inj ho).1).2]; exact Nat.zero_le _
 split at ho
 ·
  rw [(Prod.mk.inj (Prod.mk.inj ho).1).2]; exact Nat.zero_le _
 split at ho
 ·
  unfold dropD at ho
  split at ho
  ·
   rw [(Prod.mk.inj (Prod.mk.inj ho).1).2]; simp
  ·
   rw [(Prod.mk.inj (Prod.mk.inj ho).1).2]; exact Nat.zero_le _
 split at ho
 ·
  have := takeP_len l o.id
  rw [← ho] at this
  dsimp only at this
  omega
 split at ho
 ·
  rw [(Prod.mk.inj (Prod.mk.inj ho).1).2]; exact Nat.zero_le _
 ·
  rw [(Prod.mk.inj (Prod.mk.inj ho).1).2]; exact Nat.zero_le _
set_option maxRecDepth 100000 in
theorem c_few8 (ops : List LOp) (A0 : Option Addr) (c0 : Nat) (hlo : ops.length ≤ 2000000) (hfo : ∀ o ∈ ops, o.p.fit) (hM : (ops.map (fun o : LOp => pmany [o.p])).sum ≤ 1000000000000) (hM2 : (ops.map (fun o : LOp => o.ids.length + o.p.l.length)).sum ≤ 1000000000000) : Con Tryz.prog 10 [.slice A0 ops.length c0] [] [slA A0 ops] Unit (fun _ => .bool (few8 ops)) (fun _ => []) (fun _ => []) := by
 refine con func10 rfl ntmps10 rfl ?_
 intro M0 F0 w0
 refine k_ 20 ?_
 refine cl (ι := {q : Nat × Int × Int // q.1 ≤ ops.length ∧ q.2.1 = ((((ops.take q.1).map (fun o : LOp => pmany [o.p])).sum : Nat) : Int) ∧ q.2.2 = ((((ops.take q.1).map (fun o : LOp => o.ids.length + o.p.l.length)).sum : Nat) : Int)}) (fun i => St M0 F0 w0 41 [(0, .slice A0 ops.length c0), (3, .int .i64 i.1.2.1), (4, .int .i64 i.1.2.2), (7, .slice A0 ops.length c0), (8, .int .i64 (ops.length : Int)), (9, .int .i64 ((i.1.1 : Nat) : Int))] [] [slA A0 ops]) (fun i => ops.length - i.1.1) ⟨(0, 0, 0), by simp⟩ (wk0 Φ Ω) ?_
 rintro ⟨⟨k, n, u⟩, hk, hnn, huu⟩
 refine cmono (S' := St M0 F0 w0 41 [(0, .slice A0 ops.length c0), (3, .int .i64 n), (4, .int .i64 u), (7, .slice A0 ops.length c0), (8, .int .i64 (ops.length : Int)), (9, .int .i64 ((k : Nat) : Int))] [] [slA A0 ops]) Ħ ?_
 refine k_ 6 ?_
 refine cc rfl ?_ ?_
 ·
  intro h10
  dsimp only at hk hnn huu
  try simp only [nrmZ] at h10
  have hk1 : k < ops.length := by omega
  have e1 := sum_take_succ (f := (fun o : LOp => pmany [o.p])) hk1; have e2 := sum_take_succ (f := (fun o : LOp => o.ids.length + o.p.l.length)) hk1
  have e3 := sum_take_le (fun o : LOp => pmany [o.p]) ops (k + 1); have e4 := sum_take_le (fun o : LOp => o.ids.length + o.p.l.length) ops (k + 1)
  try dsimp only at e1 e2
  have hfk := hfo _ (List.getElem_mem hk1)
  refine k_ 5 ?_
  refine elC (A := A0) (l := ops) Θ k (List.getElem?_eq_getElem (l := ops) hk1) ?_; rintro zbp zop zyp hAp
  refine cr ?_
  refine ls (op (p_ia k hAp hk1 rfl underlying22 sizeOf33 rfl rfl) rfl) ?_
  refine ls (o_ldj isAgg33 sizeOf33 rfl Θ 0 rfl Δ rfl) ?_
  refine ls (o_alloc zeroValue33 rfl rfl) ?_
  refine le ?_; intro b6
  refine k_ 8 ?_
  refine ls (o_bsl [ops[k].p] underlying27 sizeOf31 zeroValue31 rfl (Enum.t Enum.d) (RV.t zyp.1 rfl Ω RV.d) rfl (by decide) (by decide) rfl) ?_
  refine le ?_; intro b16
  refine lmono (fun a w h => Go.Sx.freeze (i := 0) rfl h) ?_
  refine lC [] call41 (c_Many7 [ops[k].p] (some ⟨b16, 0, none⟩) 1 (by simp) (fun x hx => by rw [List.mem_singleton.1 hx]; exact hfk) (by omega)) ?_; intro x17
  refine k_ 23 ?_
  refine nnext ⟨(k + 1, n + (pmany [ops[k].p] : Int), u + ((ops[k].ids.length : Int) + (ops[k].p.l.length : Int))), hk1, by dsimp only; omega, by dsimp only; omega⟩ (by dsimp only; omega) (wK [])
 ·
  intro h10
  dsimp only at hk hnn huu
  try simp only [nrmZ] at h10
  rw [List.take_of_length_le (by omega)] at hnn huu
  refine k_ 11 ?_
  refine andX 3 33 36 rfl (sL [0, 3, 4, 7, 8, 9, 10]) ?_ ?_
  ·
   intro h33
   refine k_ 3 ?_
   refine ln (nmid (wk0 Φ Ω))
  apply exI
  ·
   intro h33
   refine k_ 3 ?_
   refine ln (nmid (wk0 Φ Ω))
  ·
   refine k_ 1 ?_
   refine andX 3 37 40 rfl (sL [0, 3, 4, 7, 8, 9, 10]) ?_ ?_
   ·
    intro h37
    refine k_ 3 ?_
    refine ln (nmid (wk0 Φ Ω))
   apply exI
   ·
    intro h37
    refine k_ 3 ?_
    refine ln (nmid (wk0 Φ Ω))
   ·
    refine k_ 5 ?_
    refine rret (is := []) () (Or.inl rfl) (Res.t rfl Res.d) ?_ rfl Ω
    rw [hnn, huu]; rfl
set_option maxRecDepth 100000 in
theorem c_does8 (l : List Patch) (A : Option Addr) (c : Nat) (pl p b : Nat) (mm nn : Nat) (hI : LogI mm nn l (treeP l)) (hmm : mm ≤ 500000) (hnn : nn ≤ 500000) (o : LOp) (y : Rp.Lay LOp) (hq : o.p.fit) (hqz : lns o.p.l ≤ 500000) (hqy : o.p.l.length ≤ 500000) (hids : o.ids.length ≤ 2000000) : Con Tryz.prog 14 [.pointer (some ⟨pl, 0, none⟩), sv o y] [box pl 82 [.slice A l.length c, .pointer (some ⟨p, 0, none⟩)], row 55 A c l, box p 119 [.map (some b)], tr b (treeP l)] [slA y.1.1.1 o.p.deps, slA y.1.2.1 o.p.l, capA y.1.2.2 o.p.l.length, slA y.2.1 o.ids] {x : ((List Patch × List Patch) × Int) × (((Option Addr × Nat) × (Nat × Nat × Nat)) × (Option Addr × Nat)) // x.1 = doL l o} (fun x => .tuple #[.pointer (some ⟨x.1.2.1.2.1, 0, none⟩), .slice x.1.2.2.1 x.1.1.1.2.length x.1.2.2.2, .int .i64 x.1.1.2]) (fun x => [box x.1.2.1.2.1 82 [.slice x.1.2.1.1.1 x.1.1.1.1.length x.1.2.1.1.2, .pointer (some ⟨x.1.2.1.2.2.1, 0, none⟩)], row 55 x.1.2.1.1.1 x.1.2.1.1.2 x.1.1.1.1, box x.1.2.1.2.2.1 119 [.map (some x.1.2.1.2.2.2)], tr x.1.2.1.2.2.2 (treeP x.1.1.1.1)]) (fun x => [slA x.1.2.2.1 x.1.1.1.2]) := by
 refine con func14 rfl ntmps14 rfl ?_
 intro M0 F0 w0
 refine k_ 2 ?_
 refine ls (o_box rfl rfl rfl) ?_
 refine le ?_; intro b3
 refine k_ 7 ?_
 have hf := hI.ok.fit
 have hl : l.length ≤ 2000000 := by have := hI.len; omega
 refine cpure (rowFact (α := Patch) (A := A) (c := c) (l := l) Θ) ?_
 rintro ⟨hA, hc⟩
 refine k_ 12 ?_
 refine cc rfl ?_ ?_
 ·
  intro h14
  have hk0 : o.kind = 0 := of_decide_eq_true h14
  refine cs ?_
  refine cmono (fun a w h => nilSl (α := Patch) h) ?_
  refine k_ 5 ?_
  refine lC [] call46 (c_New7 o.p y.1 hq) ?_; intro y20
  refine lC [1, 1, 1, 1] call39 (c_logAdd l A c hl pl p b (treeP l) o.p y20 hq mm nn hI.app (by omega) (by omega)) ?_; rintro ⟨⟨⟨⟨l1, T1⟩, e1⟩, ⟨A1, c1⟩⟩, ho⟩
  dsimp only at ho
  obtain ⟨ha1, ha2, ha3⟩ := hI.addP hq
  rw [← ho] at ha1 ha2 ha3
  dsimp only at ha1 ha2 ha3
  obtain rfl : T1 = treeP l1 := by rw [ha1]; exact ha3.tree.symm
  refine k_ 7 ?_
  exact rR [0, 0, 0, 0] ⟨(((l1, []), e1), (((A1, c1), (pl, p, b)), (none, 0))), by unfold doL; rw [if_pos hk0, ← ha1, ← ha2]⟩
 ·
  intro h14
  have hk0 : ¬ o.kind = 0 := of_decide_eq_false h14
  refine k_ 6 ?_
  refine cc rfl ?_ ?_
  ·
   intro h22
   have hk1 : o.kind = 1 := of_decide_eq_true h22
   refine cs ?_
   refine cmono (fun a w h => nilSl (α := Patch) h) ?_
   refine k_ 5 ?_
   refine lC [2, 1] call33 (c_logLast l A c hl hf hc hA pl p o.id) ?_; rintro ⟨⟨⟨l1, e1⟩, ⟨A1, c1⟩⟩, ho⟩
   dsimp only at ho
   have hT : treeP l1 = treeP l := by have h := (hI.last o.id).tree; rw [← ho] at h; exact h
   refine lmono (fun a w h => trEq Θ hT.symm Θ h) ?_
   refine k_ 7 ?_
   exact rR [1, 0, 1, 1] ⟨(((l1, []), e1), (((A1, c1), (pl, p, b)), (none, 0))), by unfold doL; rw [if_neg hk0, if_pos hk1, ← ho]⟩
  ·
   intro h22
   have hk1 : ¬ o.kind = 1 := of_decide_eq_false h22
   refine k_ 6 ?_
   refine cc rfl ?_ ?_
   ·
    intro h29
    have hk2 : o.kind = 2 := of_decide_eq_true h29
    refine k_ 3 ?_
    refine lC [1, 1, 1, 1] call31 (c_logDrop l A c hl hf pl p b (treeP l) mm nn hI.app (fun q hq => by have := hI.mem hq; omega) (fun q hq => by have := hI.mem hq; omega)) ?_; rintro ⟨⟨⟨⟨l1, T1⟩, ⟨q1, b1⟩⟩, y33⟩, ho⟩
    dsimp only at ho
    obtain ⟨ha1, ha2, ha3, ha4, ha5⟩ := hI.drop
    rw [← ho] at ha1 ha2 ha3 ha5
    dsimp only at ha1 ha2 ha3 ha5
    obtain rfl : T1 = treeP l1 := by rw [ha1]; exact ha2.tree.symm
    refine k_ 3 ?_
    refine ls (o_alloc zeroValue55 rfl rfl) ?_
    refine le ?_; intro b7
    refine k_ 11 ?_
    refine cc rfl ?_ ?_
    ·
     intro h37
     have h0 : ¬ 0 < l.length := by have h : (!b1) = true := h37; rw [ha3] at h; simpa using h
     refine cs ?_
     refine cmono (fun a w h => nilSl (α := Patch) h) ?_
     refine k_ 9 ?_
     exact rR [1, 1, 1, 1] ⟨(((l1, []), 0), (((A, c), (pl, p, b)), (none, 0))), by unfold doL; rw [if_neg hk0, if_neg hk1, if_pos hk2, ha1, drop_no h0]⟩
    ·
     intro h37
     have h0 : 0 < l.length := by have h : (!b1) = false := h37; rw [ha3] at h; simpa using h
     refine k_ 3 ?_
     refine cd [2] [(1, b7, 0, _)] TryzX.mixed (TOk.t (isBoxS Θ (k := 4) Δ) TOk.d) ?_
     refine u_ 0 2 ?_
     refine u_ 3 1 ?_
     refine df 2 Ψ ?_
     refine doR rfl (o_bsl [q1] underlying37 sizeOf55 zeroValue55 rfl (Enum.t Enum.d) (RV.t y33 rfl Ω RV.d) rfl (by decide) (by decide) rfl) tX ?_
     refine ea ?_; intro b41
     refine amono (fun a w h => Go.Sx.freeze (i := 0) rfl h) ?_
     refine u_ 4 2 ?_
     refine dn Ψ ?_
     refine k_ 3 ?_
     exact rR [1, 1, 1, 1] ⟨(((l1, [q1]), 0), (((A, c), (pl, p, b)), (some ⟨b41, 0, none⟩, 1))), by unfold doL; rw [if_neg hk0, if_neg hk1, if_pos hk2, drop_yes h0 ha1 (ha5 h0).1]⟩
   ·
    intro h29
    have hk2 : ¬ o.kind = 2 := of_decide_eq_false h29
    refine k_ 6 ?_
    refine cc rfl ?_ ?_
    ·
     intro h42
     have hk3 : o.kind = 3 := of_decide_eq_true h42
     refine k_ 5 ?_
     refine lC [2, 1, 1, 1] call36 (c_logTake l A c hl hf hc hA pl p b o.id (treeP l) mm nn hI (by omega) (by omega)) ?_; rintro ⟨⟨⟨⟨l1, g1⟩, e1⟩, ⟨⟨A1, c1⟩, ⟨A2, c2⟩⟩⟩, ho⟩
     dsimp only at ho
     refine k_ 19 ?_
     exact rR [0, 0, 0, 0] ⟨(((l1, g1), e1), (((A1, c1), (pl, p, b)), (A2, c2))), by unfold doL; rw [if_neg hk0, if_neg hk1, if_neg hk2, if_pos hk3, ← ho]⟩
    ·
     intro h42
     have hk3 : ¬ o.kind = 3 := of_decide_eq_false h42
     refine k_ 6 ?_
     refine cc rfl ?_ ?_
     ·
      intro h54
      have hk4 : o.kind = 4 := of_decide_eq_true h54
      refine cs ?_
      refine cmono (fun a w h => nilSl (α := Patch) h) ?_
      refine k_ 5 ?_
      refine lC [2, 1] call30 (c_logOrder l A c hl hf hc hA pl p o.ids y.2.1 y.2.2 hids hI.ok.nodup) ?_; rintro ⟨⟨⟨l1, e1⟩, ⟨A1, c1⟩⟩, ho⟩
      dsimp only at ho
      have hT : treeP l1 = treeP l := by have h := (hI.order o.ids).tree; rw [← ho] at h; exact h
      refine lmono (fun a w h => trEq Θ hT.symm Θ h) ?_
      refine k_ 7 ?_
      exact rR [1, 0, 1, 1] ⟨(((l1, []), e1), (((A1, c1), (pl, p, b)), (none, 0))), by unfold doL; rw [if_neg hk0, if_neg hk1, if_neg hk2, if_neg hk3, if_pos hk4, ← ho]⟩
     ·
      intro h54
      have hk4 : ¬ o.kind = 4 := of_decide_eq_false h54
      refine k_ 6 ?_
      refine cc rfl ?_ ?_
      ·
       intro h61
       have hk5 : o.kind = 5 := of_decide_eq_true h61
       refine k_ 3 ?_
       refine lC [1, 1, 1, 1] call35 (c_logCopy l A c hl hf pl p b (treeP l)) ?_; rintro ⟨⟨A7, c7⟩, ⟨q7, p7, b7⟩⟩
       refine k_ 10 ?_
       refine cl (ι := {q : Nat × List Patch // q.1 ≤ 30 ∧ LogI mm nn q.2 (treeP q.2)}) (fun i => St M0 F0 w0 72 [(0, .pointer (some ⟨pl, 0, none⟩)), (11, .pointer (some ⟨q7, 0, none⟩)), (65, .int .i64 ((i.1.1 : Nat) : Int))] [box q7 82 [.slice A7 l.length c7, .pointer (some ⟨p7, 0, none⟩)], row 55 A7 c7 l, box p7 119 [.map (some b7)], tr b7 (treeP l), box pl 82 [.slice A (i.1.2).length c, .pointer (some ⟨p, 0, none⟩)], row 55 A c (i.1.2), box p 119 [.map (some b)], tr b (treeP (i.1.2))] []) (fun i => 30 - i.1.1) ⟨(0, l), Nat.zero_le _, hI⟩ (wK [0, 0, 0, 0, 0, 0, 0, 0]) ?_
       rintro ⟨⟨k, l2⟩, hk, hI2⟩
       refine cmono (S' := St M0 F0 w0 72 [(0, .pointer (some ⟨pl, 0, none⟩)), (11, .pointer (some ⟨q7, 0, none⟩)), (65, .int .i64 ((k : Nat) : Int))] [box q7 82 [.slice A7 l.length c7, .pointer (some ⟨p7, 0, none⟩)], row 55 A7 c7 l, box p7 119 [.map (some b7)], tr b7 (treeP l), box pl 82 [.slice A (l2).length c, .pointer (some ⟨p, 0, none⟩)], row 55 A c (l2), box p 119 [.map (some b)], tr b (treeP (l2))] []) Ħ ?_
       refine k_ 6 ?_
       refine cc rfl ?_ ?_
       ·
        intro h66
        dsimp only at hk hI2
        try simp only [nrmZ] at h66
        have hl2 : l2.length ≤ 2000000 := by have := hI2.len; omega
        refine k_ 6 ?_
        refine lC [4, 4, 4, 4] call31 (c_logDrop l2 A c hl2 hI2.ok.fit pl p b (treeP l2) mm nn hI2.app (fun q hq => by have := hI2.mem hq; omega) (fun q hq => by have := hI2.mem hq; omega)) ?_; rintro ⟨⟨⟨⟨l1, T1⟩, ⟨q1, b1⟩⟩, y33⟩, ho⟩
        dsimp only at ho
        obtain ⟨ha1, ha2, _, _, _⟩ := hI2.drop
        rw [← ho] at ha1 ha2
        dsimp only at ha1 ha2
        obtain rfl : T1 = treeP l1 := by rw [ha1]; exact ha2.tree.symm
        rw [← ha1] at ha2
        refine k_ 7 ?_
        refine nnext ⟨(k + 1, l1), by dsimp only; omega, ha2⟩ (by dsimp only; omega) (wK [4, 4, 4, 4, 0, 0, 0, 0])
       ·
        intro h66
        dsimp only at hk hI2
        try simp only [nrmZ] at h66
        refine k_ 6 ?_
        refine cmono (fun a w h => nilSl (α := Patch) h) ?_
        refine k_ 9 ?_
        exact rR [0, 0, 0, 0] ⟨(((l, []), 0), (((A7, c7), (q7, p7, b7)), (none, 0))), by unfold doL; rw [if_neg hk0, if_neg hk1, if_neg hk2, if_neg hk3, if_neg hk4]⟩
      ·
       intro h61
       have hk5 : ¬ o.kind = 5 := of_decide_eq_false h61
       refine k_ 4 ?_
       refine cmono (fun a w h => nilSl (α := Patch) h) ?_
       refine k_ 9 ?_
       exact rR [1, 1, 1, 1] ⟨(((l, []), 0), (((A, c), (pl, p, b)), (none, 0))), by unfold doL; rw [if_neg hk0, if_neg hk1, if_neg hk2, if_neg hk3, if_neg hk4]⟩
set_option maxRecDepth 100000 in
theorem c_made8 (ops : List LOp) (A0 : Option Addr) (c0 : Nat) (hlo : ops.length ≤ 2000000) (hfo : ∀ o ∈ ops, o.p.fit) (hz8 : omz ops ≤ 8000) (hy8 : omy ops ≤ 120) (hi8 : ∀ o ∈ ops, o.ids.length ≤ 120) : Con Tryz.prog 23 [.slice A0 ops.length c0] [] [slA A0 ops] (((Option Addr × Nat) × (Nat × Nat × Nat)) × (Option Addr × Nat)) (fun x => .tuple #[.pointer (some ⟨x.1.2.1, 0, none⟩), .slice x.2.1 (madeL ops).length x.2.2]) (fun x => [box x.1.2.1 82 [.slice x.1.1.1 (madeL ops).length x.1.1.2, .pointer (some ⟨x.1.2.2.1, 0, none⟩)], row 55 x.1.1.1 x.1.1.2 (madeL ops), box x.1.2.2.1 119 [.map (some x.1.2.2.2)], tr x.1.2.2.2 (treeP (madeL ops))]) (fun x => [slA x.2.1 (madeL ops), nilA x.2, capA x.2.2 (madeL ops).length]) := by
 refine con func23 rfl ntmps23 rfl ?_
 intro M0 F0 w0
 refine k_ 8 ?_
 refine lC [] call12 (c_logNew) ?_; rintro ⟨pl0, p0, b0⟩
 refine k_ 10 ?_
 refine cmono (fun a w h => nilSl (α := Patch) h) ?_
 refine cmono (fun a w h => nilQ (y := (none, 0)) (fun _ => rfl) h) ?_
 refine cmono (fun a w h => capQ (c := 0) (m := 0) (Nat.le_refl _) h) ?_
 refine cmono (fun a w h => nilRow (α := Patch) 55 h) ?_
 refine cmono (wk (is := [1, 0, 0, 0]) (subσ.refl _) rfl (Sub.suf Suf.z)) ?_
 refine k_ 7 ?_
 refine cl (ι := {q : Nat × (((Option Addr × Nat) × (Nat × Nat × Nat)) × (Option Addr × Nat)) // q.1 ≤ ops.length}) (fun i => St M0 F0 w0 52 [(4, .pointer (some ⟨i.1.2.1.2.1, 0, none⟩)), (5, .slice i.1.2.2.1 (madeL (ops.take i.1.1)).length i.1.2.2.2), (15, .slice A0 ops.length c0), (16, .int .i64 (ops.length : Int)), (17, .int .i64 ((i.1.1 : Nat) : Int))] [box (i.1.2.1.2.1) 82 [.slice (i.1.2.1.1.1) (madeL (ops.take i.1.1)).length (i.1.2.1.1.2), .pointer (some ⟨(i.1.2.1.2.2.1), 0, none⟩)], row 55 (i.1.2.1.1.1) (i.1.2.1.1.2) (madeL (ops.take i.1.1)), box (i.1.2.1.2.2.1) 119 [.map (some (i.1.2.1.2.2.2))], tr (i.1.2.1.2.2.2) (treeP (madeL (ops.take i.1.1)))] [slA (i.1.2.2.1) (madeL (ops.take i.1.1)), nilA (i.1.2.2.1, i.1.2.2.2), capA (i.1.2.2.2) (madeL (ops.take i.1.1)).length, slA A0 ops]) (fun i => ops.length - i.1.1) ⟨(0, (((none, 0), (pl0, p0, b0)), (none, 0))), Nat.zero_le _⟩ (wK [0, 0, 0, 0]) ?_
 rintro ⟨⟨k, ⟨⟨⟨A, c⟩, ⟨pl, p, b⟩⟩, ⟨A5, c5⟩⟩⟩, hk⟩
 refine cmono (S' := St M0 F0 w0 52 [(4, .pointer (some ⟨pl, 0, none⟩)), (5, .slice A5 (madeL (ops.take k)).length c5), (15, .slice A0 ops.length c0), (16, .int .i64 (ops.length : Int)), (17, .int .i64 ((k : Nat) : Int))] [box (pl) 82 [.slice (A) (madeL (ops.take k)).length (c), .pointer (some ⟨(p), 0, none⟩)], row 55 (A) (c) (madeL (ops.take k)), box (p) 119 [.map (some (b))], tr (b) (treeP (madeL (ops.take k)))] [slA (A5) (madeL (ops.take k)), nilA (A5, c5), capA (c5) (madeL (ops.take k)).length, slA A0 ops]) Ħ ?_
 refine k_ 6 ?_
 refine cc rfl ?_ ?_
 ·
  intro h18
  dsimp only at hk
  try simp only [nrmZ] at h18
  have hk1 : k < ops.length := by omega
  have hfk := hfo _ (List.getElem_mem hk1)
  have hI := madeL_ok (ops := ops.take k) (fun o ho => hfo o (List.mem_of_mem_take ho))
  have hz1 := omz_take ops k; have hy1 := omy_take ops k; have hm1 := om_mem hk1
  have hids := hi8 _ (List.getElem_mem hk1)
  have hll := hI.len
  have hM : madeL (ops.take (k + 1)) = (doL (madeL (ops.take k)) ops[k]).1.1 := by rw [List.take_succ_eq_append_getElem hk1, madeL_snoc]
  refine k_ 5 ?_
  refine elC (A := A0) (l := ops) Θ k (List.getElem?_eq_getElem (l := ops) hk1) ?_; rintro zbp zop zyp hAp
  refine cr ?_
  refine ls (op (p_ia k hAp hk1 rfl underlying22 sizeOf33 rfl rfl) rfl) ?_
  refine ls (o_ldj isAgg33 sizeOf33 rfl Θ 0 rfl Δ rfl) ?_
  refine ls (o_alloc zeroValue33 rfl rfl) ?_
  refine le ?_; intro b7
  refine k_ 7 ?_
  refine ls (op (p_ptrnil underlying25 rfl rfl) rfl) ?_
  refine k_ 2 ?_
  refine cc rfl (fun h => by cases h) (fun h => ?_)
  refine k_ 5 ?_
  refine ls (o_ldw isAgg33 sizeOf33 rfl Θ (by rfl) rfl) ?_
  refine lC [] call13 (c_r8Do (madeL (ops.take k)) A5 c5 (by omega) hI.ok.fit (by have := hI.z; omega) (by have := hI.y; omega) hI.ok.nodup ops[k] zyp hfk (by omega) (by omega) (by omega)) ?_; rintro ⟨⟨⟨⟨n2, g2⟩, e2⟩, ⟨⟨A2, c2⟩, ⟨A3, c3⟩⟩⟩, ho2⟩
  refine k_ 18 ?_
  refine ls (o_ldw isAgg33 sizeOf33 rfl Θ (by rfl) rfl) ?_
  refine lC [1, 1, 1, 1] call14 (c_does8 (madeL (ops.take k)) A c pl p b _ _ hI (by omega) (by omega) ops[k] zyp hfk (by omega) (by omega) (by omega)) ?_; rintro ⟨⟨⟨⟨l1, g1⟩, e1⟩, ⟨⟨⟨A1, c1⟩, ⟨q1, p1, b1⟩⟩, ⟨A4, c4⟩⟩⟩, ho⟩
  dsimp only at ho
  have hto := hI.told (o := ops[k]); rw [← ho] at hto; dsimp only at hto
  have hlt : g1.length ≤ 2000000 := told_len hI (o := ops[k]) ho (by omega)
  dsimp only at ho2
  obtain ⟨hh1, rfl⟩ := Prod.mk.inj (ho2.trans ho.symm)
  obtain ⟨rfl, rfl⟩ := Prod.mk.inj hh1
  have hM1 : madeL (ops.take (k + 1)) = n2 := by rw [hM, ← ho2]
  refine k_ 20 ?_
  refine fixL (v' := .bool false) (congrArg Value.bool (by simp)) ?_
  refine k_ 2 ?_
  refine lwant rfl rfl rfl rfl (o_call (is := []) call16 (c_Olds7 g2 A4 c4 hlt hto) rfl rfl Ω rfl) ?_
  refine le ?_; rintro ⟨A44, c44⟩
  refine k_ 1 ?_
  refine lwant rfl rfl rfl rfl (o_call (is := []) call15 (c_rAll g2 g2 A44 A3 c44 c3 hlt hto hto) rfl rfl Ω rfl) ?_
  refine le ?_; intro x46
  refine fixL (congrArg Value.bool (decide_eq_true rfl)) ?_
  refine k_ 4 ?_
  refine cc rfl (fun h => by cases h) (fun h => ?_)
  refine k_ 7 ?_
  refine nnext ⟨(k + 1, (((A1, c1), (q1, p1, b1)), (A2, c2))), hk1⟩ (by dsimp only; omega) (fun a w h => by dsimp only; rw [hM1]; exact wL [0, 0, 0, 0] h)
 ·
  intro h18
  dsimp only at hk
  try simp only [nrmZ] at h18
  obtain rfl : k = ops.length := by omega
  rw [List.take_length]
  refine k_ 15 ?_
  exact rR [0, 0, 0, 0] (((A, c), (pl, p, b)), (A5, c5))
end Go.Proofs.YtppjcjlijmldiaaGreatDoor.X
end
section
set_option linter.unusedVariables false
set_option linter.unusedSimpArgs false
namespace Go.Proofs.YtppjcjlijmldiaaGreatDoor.X
open Go Go.RowKit Go.Proofs Go.Sx
open Tryz
attribute [local irreducible] slA isA box row TrL TrC TrN TrA Pu OpR
set_option maxHeartbeats 8000000
def q2 : Patch := ⟨2, ⟨#[]⟩, [1], [aB]⟩
def q3 : Patch := ⟨3, ⟨#[]⟩, [], [aC]⟩
theorem fitq2 : q2.fit := ⟨by decide, by decide, by decide, fun x h => by simp [q2] at h; subst h; exact fitaB⟩
theorem fitq3 : q3.fit := ⟨by decide, by decide, by decide, fun x h => by simp [q3] at h; subst h; exact fitaC⟩
def X1 : List File := [((⟨#[97]⟩ : ByteArray), ([] : List ByteArray))]
def X2 : List File := [((⟨#[97]⟩ : ByteArray), ([] : List ByteArray)), ((⟨#[98]⟩ : ByteArray), [])]
def X3 : List File := [((⟨#[97]⟩ : ByteArray), ([] : List ByteArray)), ((⟨#[98]⟩ : ByteArray), []), ((⟨#[99]⟩ : ByteArray), [])]
theorem al8a : addP [] [] qA = (([qA], X1), 0) := by decide +kernel
theorem al8b : addP [qA] X1 q2 = (([qA, q2], X2), 0) := by decide +kernel
theorem al8c : addP [qA, q2] X2 q3 = (([qA, q2, q3], X3), 0) := by decide +kernel
theorem al8d : lastP [qA, q2, q3] 1 = ([qA, q2, q3], 83) := by decide +kernel
theorem al8e : lastP [qA, q2, q3] 2 = ([qA, q3, q2], 0) := by decide +kernel
theorem al8f : orderP [qA, q3, q2] [1, 3, 2] = ([qA, q3, q2], 0) := by decide +kernel
theorem al8g : getP [qA, q3, q2] 3 = (q3, true) := by decide +kernel
theorem al8h : takeP [qA, q3, q2] 1 = (([q3], [qA, q2]), 0) := by decide +kernel
theorem al8i : dropP [q3] (treeP [q3]) = (([], []), (q3, true)) := by decide +kernel
theorem al8j : needsP [qA, q2, q3] 1 = [2] := by decide +kernel
theorem al8t : toB (textT X3) = (⟨#[97, 32, 48, 10, 98, 32, 48, 10, 99, 32, 48, 10]⟩ : ByteArray) := by kernel_rfl
theorem al8l : (textT X3).length ≤ 100000000 := by rw [show (textT X3).length = 12 by kernel_rfl]; decide
theorem al8n : ∀ x ∈ X3, x.2.length = 0 := by decide
theorem al8z : Tfit X3 := fun x hx => by rw [al8n x hx]; decide
theorem i8a : LogI 10 10 [qA] X1 := by
 have h := LogI.nil.addP fitqA
 have h2 := h.2.2
 rw [← h.1, al8a] at h2
 exact h2.mono (by decide) (by decide)
theorem i8b : LogI 20 20 [qA, q2] X2 := by
 have h := i8a.addP fitq2
 have h2 := h.2.2
 rw [← h.1, al8b] at h2
 exact h2.mono (by decide) (by decide)
theorem i8c : LogI 30 30 [qA, q2, q3] X3 := by
 have h := i8b.addP fitq3
 have h2 := h.2.2
 rw [← h.1, al8c] at h2
 exact h2.mono (by decide) (by decide)
theorem i8e : LogI 30 30 [qA, q3, q2] X3 := by
 have h := i8c.last 2
 rw [al8e] at h
 exact h
theorem i8h : LogI 30 30 [q3] (treeP [q3]) := by
 have h := (i8e.take 1).1
 rw [al8h] at h
 exact h.self
theorem ptw {α β γ : Type} {a c : α} {b d : β} {e f : γ} (h : ((a, b), e) = ((c, d), f)) : a = c ∧ b = d ∧ e = f := by simpa [and_assoc] using h
theorem pfo {α β γ δ : Type} {a c : α} {b d : β} {e f : γ} {g h : δ} (k : ((a, b), (e, g)) = ((c, d), (f, h))) : a = c ∧ b = d ∧ e = f ∧ g = h := by simpa [and_assoc] using k
theorem c_logNeeds2 (l : List Patch) (A : Option Addr) (c : Nat) (hl : l.length ≤ 2000000) (hf : ∀ q ∈ l, q.fit) (hc : l.length ≤ c) (pl p : Nat) (v : Int) : Con Tryz.prog 27 [.pointer (some ⟨pl, 0, none⟩), .int .i64 v] [row 55 A c l, box pl 82 [.slice A l.length c, .pointer (some ⟨p, 0, none⟩)]] [] (Option Addr × Nat) (fun y => .slice y.1 (needsP l v).length y.2) (fun y => [row 55 A c l, row 3 y.1 y.2 (needsP l v), box pl 82 [.slice A l.length c, .pointer (some ⟨p, 0, none⟩)]]) (fun _ => []) := c_logNeeds l A c hl hf hc pl p v
set_option maxRecDepth 100000 in
theorem c_alive08 : Con Tryz.prog 11 [] [] [] Unit (fun _ => .bool true) (fun _ => []) (fun _ => []) := by
 refine con func11 rfl ntmps11 rfl ?_
 intro M0 F0 w0
 refine k_ 7 ?_
 refine lC [] call12 (c_logNew) ?_; rintro ⟨pl, p, b⟩
 refine k_ 5 ?_
 refine cmono (fun a w h => nilRow (α := Patch) 55 h) ?_
 refine cmono (wk (is := [1, 0, 0, 0]) (subσ.refl _) rfl (Sub.suf Suf.z)) ?_
 refine cmono (fun a w h => nilSl (α := ByteArray) h) ?_
 refine cmono (fun a w h => nilSl (α := Int) h) ?_
 refine k_ 2 ?_
 refine ls (op (p_ptrnil underlying25 rfl rfl) rfl) ?_
 refine k_ 2 ?_
 refine cc rfl (fun h => by cases h) (fun h => ?_)
 refine k_ 6 ?_
 refine ls (o_bsl [aA] underlying53 sizeOf80 zeroValue80 rfl (Enum.t Enum.d) (RV.t ((none, 0), (none, 0)) rfl Ω RV.d) rfl (by decide) (by decide) rfl) ?_
 refine le ?_; intro b22
 refine lmono (fun a w h => freezeN (i := 0) rfl h) ?_
 refine k_ 1 ?_
 refine lC [0, 0, 0, 0] call39 (c_logAdd [] none 0 (by decide) pl p b [] qA ((none, 0), (some ⟨b22, 0, none⟩, 1)) fitqA 0 0 LogI.nil.app (by decide) (by decide)) ?_; rintro ⟨⟨⟨⟨l1, T1⟩, e1⟩, ⟨A1, c1⟩⟩, h1⟩
 obtain ⟨rfl, rfl, rfl⟩ := ptw (h1.trans al8a)
 refine k_ 6 ?_
 refine ls (o_bsl [(1 : Int)] underlying28 sizeOf3 zeroValue3 rfl (Enum.t Enum.d) (RV.t () rfl Sub.d RV.d) rfl (by decide) (by decide) rfl) ?_
 refine le ?_; intro b26
 refine lmono (fun a w h => Go.Sx.freeze (i := 0) rfl h) ?_
 refine k_ 1 ?_
 refine ls (o_bsl [aB] underlying53 sizeOf80 zeroValue80 rfl (Enum.t Enum.d) (RV.t ((none, 0), (none, 0)) rfl Ω RV.d) rfl (by decide) (by decide) rfl) ?_
 refine le ?_; intro b28
 refine lmono (fun a w h => freezeN (i := 0) rfl h) ?_
 refine k_ 1 ?_
 refine lC [0, 0, 0, 0] call39 (c_logAdd [qA] A1 c1 (by decide) pl p b X1 q2 ((some ⟨b26, 0, none⟩, 1), (some ⟨b28, 0, none⟩, 1)) fitq2 10 10 i8a.app (by decide) (by decide)) ?_; rintro ⟨⟨⟨⟨l2, T2⟩, e2⟩, ⟨A2, c2⟩⟩, h2⟩
 obtain ⟨rfl, rfl, rfl⟩ := ptw (h2.trans al8b)
 refine k_ 7 ?_
 refine ls (o_bsl [aC] underlying53 sizeOf80 zeroValue80 rfl (Enum.t Enum.d) (RV.t ((none, 0), (none, 0)) rfl Ω RV.d) rfl (by decide) (by decide) rfl) ?_
 refine le ?_; intro b33
 refine lmono (fun a w h => freezeN (i := 0) rfl h) ?_
 refine k_ 1 ?_
 refine lC [0, 0, 0, 0] call39 (c_logAdd [qA, q2] A2 c2 (by decide) pl p b X2 q3 ((none, 0), (some ⟨b33, 0, none⟩, 1)) fitq3 20 20 i8b.app (by decide) (by decide)) ?_; rintro ⟨⟨⟨⟨l3, T3⟩, e3⟩, ⟨A3, c3⟩⟩, h3⟩
 obtain ⟨rfl, rfl, rfl⟩ := ptw (h3.trans al8c)
 refine k_ 6 ?_
 refine lC [0, 0, 0, 0] call35 (c_logCopy [qA, q2, q3] A3 c3 (by decide) i8c.ok.fit pl p b X3) ?_; rintro ⟨⟨Ak, ck⟩, ⟨q7, pk, bk⟩⟩
 refine k_ 4 ?_
 refine cpure (rowFact (α := Patch) (A := A3) (c := c3) (l := [qA, q2, q3]) Θ) ?_
 rintro ⟨hA3, hc3⟩
 refine k_ 2 ?_
 refine lC [5, 4] call33 (c_logLast [qA, q2, q3] A3 c3 (by decide) i8c.ok.fit hc3 hA3 pl p 1) ?_; rintro ⟨⟨⟨l4, e4⟩, ⟨A4, c4⟩⟩, h4⟩
 obtain ⟨rfl, rfl⟩ := ptwo_eq (h4.trans al8d)
 refine k_ 4 ?_
 refine cpure (rowFact (α := Patch) (A := A4) (c := c4) (l := [qA, q2, q3]) Θ) ?_
 rintro ⟨hA4, hc4⟩
 refine k_ 2 ?_
 refine lC [0, 0] call33 (c_logLast [qA, q2, q3] A4 c4 (by decide) i8c.ok.fit hc4 hA4 pl p 2) ?_; rintro ⟨⟨⟨l5, e5⟩, ⟨A5, c5⟩⟩, h5⟩
 obtain ⟨rfl, rfl⟩ := ptwo_eq (h5.trans al8e)
 refine k_ 4 ?_
 refine cpure (rowFact (α := Patch) (A := A5) (c := c5) (l := [qA, q3, q2]) Θ) ?_
 rintro ⟨hA5, hc5⟩
 refine k_ 2 ?_
 refine ls (o_bsl ([1, 3, 2] : List Int) underlying28 sizeOf3 zeroValue3 rfl (Enum.t (Enum.t (Enum.t Enum.d))) (RV.t () rfl Sub.d (RV.t () rfl Sub.d (RV.t () rfl Sub.d RV.d))) rfl (by decide) (by decide) rfl) ?_
 refine le ?_; intro b43
 refine lmono (fun a w h => Go.Sx.freeze (i := 0) rfl h) ?_
 refine lC [0, 0] call30 (c_logOrder [qA, q3, q2] A5 c5 (by decide) i8e.ok.fit hc5 hA5 pl p [1, 3, 2] (some ⟨b43, 0, none⟩) 3 (by decide) i8e.ok.nodup) ?_; rintro ⟨⟨⟨l6, e6⟩, ⟨A6, c6⟩⟩, h6⟩
 obtain ⟨rfl, rfl⟩ := ptwo_eq (h6.trans al8f)
 refine k_ 6 ?_
 refine lC [1, 5, 5] call20 (c_logTree pl p b X3 (.slice A6 [qA, q3, q2].length c6)) ?_; rintro ⟨p9, b9⟩
 refine k_ 7 ?_
 refine ls (op (p_ptrnil underlying25 rfl rfl) rfl) ?_
 refine k_ 2 ?_
 refine lwant rfl rfl rfl rfl (op (p_ptrnil underlying47 rfl rfl) rfl) ?_
 refine k_ 3 ?_
 refine cc rfl (fun h => by cases h) (fun h => ?_)
 refine k_ 5 ?_
 refine lC [2, 4] call24 (c_logGet [qA, q3, q2] A6 c6 (by decide) i8e.ok.fit pl p 3) ?_; rintro ⟨⟨⟨g7, gb⟩, y7⟩, h7⟩
 obtain ⟨rfl, rfl⟩ := ptwo_eq (h7.trans al8g)
 refine k_ 3 ?_
 refine ls (o_alloc zeroValue55 rfl rfl) ?_
 refine le ?_; intro b10
 refine k_ 5 ?_
 refine cpure (rowFact (α := Patch) (A := A6) (c := c6) (l := [qA, q3, q2]) Θ) ?_
 rintro ⟨hA6, hc6⟩
 refine k_ 2 ?_
 refine lC [2, 1, 3, 3] call36 (c_logTake [qA, q3, q2] A6 c6 (by decide) i8e.ok.fit hc6 hA6 pl p b 1 X3 30 30 i8e (by decide) (by decide)) ?_; rintro ⟨⟨⟨⟨l8, g8⟩, e8⟩, ⟨⟨A8, c8⟩, ⟨A9, c9⟩⟩⟩, h8⟩
 obtain ⟨rfl, rfl, rfl⟩ := ptw (h8.trans al8h)
 refine k_ 10 ?_
 refine lC [0, 0, 0, 0] call31 (c_logDrop [q3] A8 c8 (by decide) i8h.ok.fit pl p b (treeP [q3]) 30 30 i8h.app (fun q hq => by have := i8h.mem hq; omega) (fun q hq => by have := i8h.mem hq; omega)) ?_; rintro ⟨⟨⟨⟨l9, T9⟩, ⟨d9, f9⟩⟩, y9⟩, h9⟩
 obtain ⟨rfl, rfl, rfl, rfl⟩ := pfo (h9.trans al8i)
 refine k_ 3 ?_
 refine ls (o_alloc zeroValue55 rfl rfl) ?_
 refine le ?_; intro b14
 refine k_ 5 ?_
 refine cpure (rowFact (α := Patch) (A := Ak) (c := ck) (l := [qA, q2, q3]) Θ) ?_
 rintro ⟨hAk, hck⟩
 refine k_ 2 ?_
 refine lC [9, 8] call27 (c_logNeeds2 [qA, q2, q3] Ak ck (by decide) i8c.ok.fit hck q7 pk 1) ?_; rintro ⟨A10, c10⟩
 rw [al8j]
 refine k_ 4 ?_
 refine cmono (fun a w h => Go.Sx.freeze (i := 1) rfl h) ?_
 refine elC (A := A10) (l := ([2] : List Int)) Θ 0 rfl ?_; rintro zb2 zo2 zy2 hA2
 refine k_ 3 ?_
 refine fixL (congrArg Value.bool (decide_eq_true rfl)) ?_
 refine k_ 3 ?_
 refine fixL (congrArg Value.bool (decide_eq_true rfl)) ?_
 refine k_ 4 ?_
 refine fixL (congrArg Value.bool (decide_eq_true rfl)) ?_
 refine k_ 4 ?_
 refine fixL (congrArg Value.bool (decide_eq_true rfl)) ?_
 refine k_ 4 ?_
 refine fixL (congrArg Value.bool (decide_eq_true rfl)) ?_
 refine k_ 4 ?_
 refine fixL (congrArg Value.bool (decide_eq_true rfl)) ?_
 refine k_ 3 ?_
 refine lwant rfl rfl rfl rfl (o_call (is := [8, 8]) call32 (c_tTextS p9 b9 X3 (⟨#[97, 32, 48, 10, 98, 32, 48, 10, 99, 32, 48, 10]⟩ : ByteArray) al8t (by decide) al8z al8l [] (fun x hx => by rw [al8n x hx]; exact l_Itoa 0 (by decide))) rfl rfl Ω rfl) ?_
 refine le ?_; intro x94
 refine k_ 1 ?_
 refine fixL (congrArg Value.bool (decide_eq_true rfl)) ?_
 refine k_ 8 ?_
 refine fixL (congrArg Value.bool (decide_eq_true rfl)) ?_
 refine k_ 5 ?_
 refine fixL (congrArg Value.bool (decide_eq_true rfl)) ?_
 refine k_ 4 ?_
 refine fixL (congrArg Value.bool (decide_eq_true rfl)) ?_
 refine k_ 5 ?_
 refine fixL (congrArg Value.bool (decide_eq_true rfl)) ?_
 refine k_ 6 ?_
 refine lwant rfl rfl rfl rfl (o_call (is := [5, 5]) call22 (c_logIdsW [] A8 c8 (by decide) pl p) rfl rfl Ω rfl) ?_
 refine le ?_; rintro ⟨A11, c11⟩
 refine k_ 2 ?_
 refine fixL (congrArg Value.bool (decide_eq_true rfl)) ?_
 refine k_ 5 ?_
 refine fixL (congrArg Value.bool (decide_eq_true rfl)) ?_
 refine k_ 3 ?_
 refine lwant rfl rfl rfl rfl (op (p_ia 0 hA2 (by decide) rfl underlying28 sizeOf3 rfl rfl) rfl) ?_
 refine lwant rfl rfl rfl rfl (o_ldi isAgg3 rfl Θ 0 rfl Δ rfl) ?_
 refine k_ 1 ?_
 refine fixL (congrArg Value.bool (decide_eq_true rfl)) ?_
 refine k_ 3 ?_
 refine lwant rfl rfl rfl rfl (o_call (is := [6, 5]) call17 (c_logAll [qA, q2, q3] Ak ck (by decide) i8c.ok.fit q7 pk) rfl rfl Ω rfl) ?_
 refine le ?_; rintro ⟨A12, c12⟩
 refine k_ 2 ?_
 refine fixL (congrArg Value.bool (decide_eq_true rfl)) ?_
 refine k_ 4 ?_
 refine lwant rfl rfl rfl rfl (o_call (is := [1, 1, 10, 10]) call35 (c_logCopy [qA, q2, q3] Ak ck (by decide) i8c.ok.fit q7 pk bk X3) rfl rfl Ω rfl) ?_
 refine le ?_; rintro ⟨⟨Ac, cc⟩, ⟨qc, pc, bc⟩⟩
 refine lwant rfl rfl rfl rfl (o_call (is := [4, 4, 0, 0, 0, 0]) call37 (c_logSame [qA, q2, q3] [qA, q2, q3] Ak Ac ck cc (by decide) i8c.ok.fit (by decide) i8c.ok.fit i8c.ok.nodup q7 pk qc pc bc X3) rfl rfl Ω rfl) ?_
 refine le ?_; intro x149
 refine fixL (congrArg Value.bool (sameP_refl _)) ?_
 refine k_ 6 ?_
 exact rR [] ()
end Go.Proofs.YtppjcjlijmldiaaGreatDoor.X
end
section
set_option linter.unusedVariables false
set_option linter.unusedSimpArgs false
namespace Go.Proofs.YtppjcjlijmldiaaGreatDoor.X
open Go Go.RowKit Go.Proofs Go.Sx
open Tryz
attribute [local irreducible] slA isA box row TrL TrC TrN TrA Pu OpR
set_option maxHeartbeats 8000000
set_option maxRecDepth 100000 in
theorem c_LogAll (ops : List LOp) (A0 : Option Addr) (c0 : Nat) (hlo : ops.length ≤ 2000000) (hfo : ∀ o ∈ ops, o.p.fit) (hM : (ops.map (fun o : LOp => pmany [o.p])).sum ≤ 1000000000000) (hM2 : (ops.map (fun o : LOp => o.ids.length + o.p.l.length)).sum ≤ 1000000000000) : Con Tryz.prog 3 [.slice A0 ops.length c0] [] [slA A0 ops] Unit (fun _ => .bool true) (fun _ => []) (fun _ => []) := by
 refine con func3 rfl ntmps3 rfl ?_
 intro M0 F0 w0
 refine k_ 9 ?_
 refine lC [] call10 (c_few8 ops A0 c0 hlo hfo hM hM2) ?_; intro x14
 refine k_ 3 ?_
 refine cc rfl ?_ ?_
 ·
  intro h15
  refine k_ 2 ?_
  refine lC [] call11 (c_alive08) ?_; intro x16
  refine k_ 5 ?_
  exact rR [] ()
 ·
  intro h15
  obtain ⟨hw1, hz8, hy8, hi8⟩ := few8_yes (ops := ops) (by have h := h15; simp at h; exact h)
  refine k_ 4 ?_
  refine lC [] call12 (c_logNew) ?_; rintro ⟨pl0, p0, b0⟩
  refine k_ 10 ?_
  refine cmono (fun a w h => nilSl (α := Patch) h) ?_
  refine cmono (fun a w h => nilQ (y := (none, 0)) (fun _ => rfl) h) ?_
  refine cmono (fun a w h => capQ (c := 0) (m := 0) (Nat.le_refl _) h) ?_
  refine cmono (fun a w h => nilRow (α := Patch) 55 h) ?_
  refine cmono (wk (is := [1, 0, 0, 0]) (subσ.refl _) rfl (Sub.suf Suf.z)) ?_
  refine k_ 7 ?_
  refine cl (ι := {q : Nat × (((Option Addr × Nat) × (Nat × Nat × Nat)) × (Option Addr × Nat)) // q.1 ≤ ops.length}) (fun i => St M0 F0 w0 83 [(3, .pointer (some ⟨i.1.2.1.2.1, 0, none⟩)), (4, .slice i.1.2.2.1 (madeL (ops.take i.1.1)).length i.1.2.2.2), (18, .slice A0 ops.length c0), (19, .int .i64 (ops.length : Int)), (20, .int .i64 ((i.1.1 : Nat) : Int))] [box (i.1.2.1.2.1) 82 [.slice (i.1.2.1.1.1) (madeL (ops.take i.1.1)).length (i.1.2.1.1.2), .pointer (some ⟨(i.1.2.1.2.2.1), 0, none⟩)], row 55 (i.1.2.1.1.1) (i.1.2.1.1.2) (madeL (ops.take i.1.1)), box (i.1.2.1.2.2.1) 119 [.map (some (i.1.2.1.2.2.2))], tr (i.1.2.1.2.2.2) (treeP (madeL (ops.take i.1.1)))] [slA (i.1.2.2.1) (madeL (ops.take i.1.1)), nilA (i.1.2.2.1, i.1.2.2.2), capA (i.1.2.2.2) (madeL (ops.take i.1.1)).length, slA A0 ops]) (fun i => ops.length - i.1.1) ⟨(0, (((none, 0), (pl0, p0, b0)), (none, 0))), Nat.zero_le _⟩ (wK [0, 0, 0, 0]) ?_
  rintro ⟨⟨k, ⟨⟨⟨A, c⟩, ⟨pl, p, b⟩⟩, ⟨A5, c5⟩⟩⟩, hk⟩
  refine cmono (S' := St M0 F0 w0 83 [(3, .pointer (some ⟨pl, 0, none⟩)), (4, .slice A5 (madeL (ops.take k)).length c5), (18, .slice A0 ops.length c0), (19, .int .i64 (ops.length : Int)), (20, .int .i64 ((k : Nat) : Int))] [box (pl) 82 [.slice (A) (madeL (ops.take k)).length (c), .pointer (some ⟨(p), 0, none⟩)], row 55 (A) (c) (madeL (ops.take k)), box (p) 119 [.map (some (b))], tr (b) (treeP (madeL (ops.take k)))] [slA (A5) (madeL (ops.take k)), nilA (A5, c5), capA (c5) (madeL (ops.take k)).length, slA A0 ops]) Ħ ?_
  refine k_ 6 ?_
  refine cc rfl ?_ ?_
  ·
   intro h21
   dsimp only at hk
   try simp only [nrmZ] at h21
   have hk1 : k < ops.length := by omega
   have hfk := hfo _ (List.getElem_mem hk1)
   have hI := madeL_ok (ops := ops.take k) (fun o ho => hfo o (List.mem_of_mem_take ho))
   have hz1 := omz_take ops k; have hy1 := omy_take ops k; have hm1 := om_mem hk1
   have hids := hi8 _ (List.getElem_mem hk1)
   have hll := hI.len
   have hM : madeL (ops.take (k + 1)) = (doL (madeL (ops.take k)) ops[k]).1.1 := by rw [List.take_succ_eq_append_getElem hk1, madeL_snoc]
   refine k_ 5 ?_
   refine elC (A := A0) (l := ops) Θ k (List.getElem?_eq_getElem (l := ops) hk1) ?_; rintro zbp zop zyp hAp
   refine cr ?_
   refine ls (op (p_ia k hAp hk1 rfl underlying22 sizeOf33 rfl rfl) rfl) ?_
   refine ls (o_ldj isAgg33 sizeOf33 rfl Θ 0 rfl Δ rfl) ?_
   refine ls (o_alloc zeroValue33 rfl rfl) ?_
   refine le ?_; intro b6
   refine k_ 7 ?_
   refine ls (op (p_ptrnil underlying25 rfl rfl) rfl) ?_
   refine k_ 2 ?_
   refine cc rfl (fun h => by cases h) (fun h => ?_)
   refine k_ 5 ?_
   refine ls (o_ldw isAgg33 sizeOf33 rfl Θ (by rfl) rfl) ?_
   refine lC [] call13 (c_r8Do (madeL (ops.take k)) A5 c5 (by omega) hI.ok.fit (by have := hI.z; omega) (by have := hI.y; omega) hI.ok.nodup ops[k] zyp hfk (by omega) (by omega) (by omega)) ?_; rintro ⟨⟨⟨⟨n2, g2⟩, e2⟩, ⟨⟨A2, c2⟩, ⟨A3, c3⟩⟩⟩, ho2⟩
   refine k_ 18 ?_
   refine ls (o_ldw isAgg33 sizeOf33 rfl Θ (by rfl) rfl) ?_
   refine lC [1, 1, 1, 1] call14 (c_does8 (madeL (ops.take k)) A c pl p b _ _ hI (by omega) (by omega) ops[k] zyp hfk (by omega) (by omega) (by omega)) ?_; rintro ⟨⟨⟨⟨l1, g1⟩, e1⟩, ⟨⟨⟨A1, c1⟩, ⟨q1, p1, b1⟩⟩, ⟨A4, c4⟩⟩⟩, ho⟩
   dsimp only at ho
   have hto := hI.told (o := ops[k]); rw [← ho] at hto; dsimp only at hto
   have hlt : g1.length ≤ 2000000 := told_len hI (o := ops[k]) ho (by omega)
   dsimp only at ho2
   obtain ⟨hh1, rfl⟩ := Prod.mk.inj (ho2.trans ho.symm)
   obtain ⟨rfl, rfl⟩ := Prod.mk.inj hh1
   have hM1 : madeL (ops.take (k + 1)) = n2 := by rw [hM, ← ho2]
   have hI2 := madeL_ok (ops := ops.take (k + 1)) (fun o ho => hfo o (List.mem_of_mem_take ho))
   rw [hM1] at hI2
   have hz2 := omz_take ops (k + 1); have hy2 := omy_take ops (k + 1)
   have hl2 := hI2.len
   refine k_ 18 ?_
   refine ls (op (p_ptrnil underlying25 rfl rfl) rfl) ?_
   refine k_ 4 ?_
   refine fixL (v' := .bool false) (congrArg Value.bool (by simp)) ?_
   refine k_ 3 ?_
   refine lwant rfl rfl rfl rfl (o_call (is := []) call16 (c_Olds7 g2 A4 c4 hlt hto) rfl rfl Ω rfl) ?_
   refine le ?_; rintro ⟨A51, c51⟩
   refine k_ 1 ?_
   refine lwant rfl rfl rfl rfl (o_call (is := []) call15 (c_rAll g2 g2 A51 A3 c51 c3 hlt hto hto) rfl rfl Ω rfl) ?_
   refine le ?_; intro x53
   refine fixL (congrArg Value.bool (decide_eq_true rfl)) ?_
   refine k_ 4 ?_
   refine lwant rfl rfl rfl rfl (o_call (is := [0, 0]) call17 (c_logAll n2 A1 c1 (by omega) hI2.ok.fit q1 p1) rfl rfl Ω rfl) ?_
   refine le ?_; rintro ⟨A58, c58⟩
   refine lmono (fun a w h => Go.Sx.freeze (i := 0) rfl h) ?_
   refine lwant rfl rfl rfl rfl (o_call (is := []) call16 (c_Olds7 n2 A58 c58 (by omega) hI2.ok.fit) rfl rfl Ω rfl) ?_
   refine le ?_; rintro ⟨A59, c59⟩
   refine k_ 1 ?_
   refine lwant rfl rfl rfl rfl (o_call (is := []) call15 (c_rAll n2 n2 A59 A2 c59 c2 (by omega) hI2.ok.fit hI2.ok.fit) rfl rfl Ω rfl) ?_
   refine le ?_; intro x61
   refine fixL (congrArg Value.bool (decide_eq_true rfl)) ?_
   refine k_ 4 ?_
   refine lwant rfl rfl rfl rfl (o_call (is := [0, 1, 1]) call20 (c_logTree q1 p1 b1 (treeP n2) (.slice A1 n2.length c1)) rfl rfl Ω rfl) ?_
   refine le ?_; rintro ⟨p9, b9⟩
   refine lwant rfl rfl rfl rfl (o_call (is := [0, 0]) call19 (c_Old02 p9 b9 (treeP n2) (by have := hI2.app.len; omega) (fun x hx => Nat.le_trans (hI2.app.lmax x hx) (by omega))) rfl rfl Ω rfl) ?_
   refine le ?_; rintro ⟨A67, c67⟩
   refine k_ 1 ?_
   refine lwant rfl rfl rfl rfl (o_call (is := []) call21 (c_r8Tree n2 A2 c2 (by omega) hI2.ok.fit (by have := hI2.z; omega) (by have := hI2.y; omega)) rfl rfl Ω rfl) ?_
   refine le ?_; rintro ⟨A69, c69⟩
   refine lwant rfl rfl rfl rfl (o_call (is := []) call18 (c_rSame02 (treeP n2) (treeP n2) A67 A69 c67 c69 (by have := hI2.app.len; omega) (fun x hx => Nat.le_trans (hI2.app.lmax x hx) (by omega))) rfl rfl Ω rfl) ?_
   refine le ?_; intro x70
   refine fixL (congrArg Value.bool (decide_eq_true rfl)) ?_
   refine k_ 4 ?_
   refine lwant rfl rfl rfl rfl (o_call (is := [2, 4]) call22 (c_logIdsW n2 A1 c1 (by omega) q1 p1) rfl rfl Ω rfl) ?_
   refine le ?_; rintro ⟨A75, c75⟩
   refine k_ 4 ?_
   refine fixL (v' := .bool false) (congrArg Value.bool (by simp [idsP_len])) ?_
   refine k_ 3 ?_
   refine cc rfl (fun h => by cases h) (fun h => ?_)
   refine k_ 7 ?_
   refine nnext ⟨(k + 1, (((A1, c1), (q1, p1, b1)), (A2, c2))), hk1⟩ (by dsimp only; omega) (fun a w h => by dsimp only; rw [hM1]; exact wL [1, 1, 3, 3] h)
  ·
   intro h21
   dsimp only at hk
   try simp only [nrmZ] at h21
   refine k_ 7 ?_
   refine lC [] call11 (c_alive08) ?_; intro x82
   refine k_ 5 ?_
   exact rR [] ()
set_option maxRecDepth 100000 in
theorem c_LogBack (ops : List LOp) (A0 : Option Addr) (c0 : Nat) (hlo : ops.length ≤ 2000000) (hfo : ∀ o ∈ ops, o.p.fit) (hM : (ops.map (fun o : LOp => pmany [o.p])).sum ≤ 1000000000000) (hM2 : (ops.map (fun o : LOp => o.ids.length + o.p.l.length)).sum ≤ 1000000000000) (ids : List Int) (B : Option Addr) (c' : Nat) (hids : ids.length ≤ 2000000) : Con Tryz.prog 5 [.slice A0 ops.length c0, .slice B ids.length c'] [] [slA A0 ops, slA B ids] Unit (fun _ => .bool true) (fun _ => []) (fun _ => []) := by
 refine con func5 rfl ntmps5 rfl ?_
 intro M0 F0 w0
 refine k_ 9 ?_
 refine lC [] call10 (c_few8 ops A0 c0 hlo hfo hM hM2) ?_; intro x9
 refine k_ 2 ?_
 refine orX 4 11 15 rfl (sL [0, 1, 4]) ?_ ?_
 ·
  intro h11
  refine k_ 4 ?_
  refine ln (nmid (wk0 Φ Ω))
 apply exI
 ·
  intro h11
  refine k_ 4 ?_
  refine ln (nmid (wk0 Φ Ω))
 ·
  refine k_ 2 ?_
  refine cc rfl ?_ ?_
  ·
   intro h15
   refine k_ 2 ?_
   refine lC [] call11 (c_alive08) ?_; intro x16
   refine k_ 5 ?_
   exact rR [] ()
  ·
   intro h15
   obtain ⟨hw1, hz8, hy8, hi8⟩ := few8_yes (ops := ops) (by have h := h15; simp at h; exact h.1)
   refine k_ 5 ?_
   refine lC [] call23 (c_made8 ops A0 c0 hlo hfo hz8 hy8 hi8) ?_; rintro ⟨⟨⟨A, c⟩, ⟨pl, p, b⟩⟩, ⟨A5, c5⟩⟩
   have hI := madeL_ok (ops := ops) hfo
   have hll := hI.len
   have hf := hI.ok.fit
   have hnd := hI.ok.nodup
   refine k_ 11 ?_
   refine ls (op (p_ptrnil underlying25 rfl rfl) rfl) ?_
   refine k_ 2 ?_
   refine cc rfl (fun h => by cases h) (fun h => ?_)
   refine k_ 5 ?_
   refine lC [0, 0] call22 (c_logIdsW (madeL ops) A c (by omega) pl p) ?_; rintro ⟨A25, c25⟩
   refine lmono (fun a w h => Go.Sx.freeze (i := 0) rfl h) ?_
   refine k_ 5 ?_
   refine cpure (rowFact (α := Patch) (A := A) (c := c) (l := (madeL ops)) Θ) ?_
   rintro ⟨hAx, hcx⟩
   refine k_ 3 ?_
   refine lC [1, 0] call30 (c_logOrder (madeL ops) A c (by omega) hf hcx hAx pl p ids B c' hids hnd) ?_; rintro ⟨⟨⟨m1, e1⟩, ⟨A1, c1⟩⟩, ho⟩
   dsimp only at ho
   have hI1 : LogI (omz ops) (omy ops) m1 (treeP (madeL ops)) := by have h := hI.order ids; rw [← ho] at h; exact h
   have hl1 := hI1.len
   refine k_ 3 ?_
   refine cc rfl ?_ ?_
   ·
    intro h29
    have he : ¬ e1 = 0 := by have h := h29; simpa using h
    obtain rfl : m1 = (madeL ops) := by have h := orderP_err (madeL ops) ids; rw [← ho] at h; exact h.resolve_left he
    refine k_ 2 ?_
    refine lC [] call11 (c_alive08) ?_; intro x30
    refine k_ 2 ?_
    refine lwant rfl rfl rfl rfl (o_call (is := [1, 0]) call17 (c_logAll (madeL ops) A1 c1 (by omega) hf pl p) rfl rfl Ω rfl) ?_
    refine le ?_; rintro ⟨A33, c33⟩
    refine lmono (fun a w h => Go.Sx.freeze (i := 0) rfl h) ?_
    refine lwant rfl rfl rfl rfl (o_call (is := []) call16 (c_Olds7 (madeL ops) A33 c33 (by omega) hf) rfl rfl Ω rfl) ?_
    refine le ?_; rintro ⟨A34, c34⟩
    refine k_ 1 ?_
    refine lwant rfl rfl rfl rfl (o_call (is := []) call15 (c_rAll (madeL ops) (madeL ops) A34 A5 c34 c5 (by omega) hf hf) rfl rfl Ω rfl) ?_
    refine le ?_; intro x36
    refine fixL (congrArg Value.bool (decide_eq_true rfl)) ?_
    refine k_ 6 ?_
    exact rR [] ()
   ·
    intro h29
    obtain rfl : e1 = 0 := by have h := h29; simpa using h
    have hb := orderP_back hnd ho.symm
    refine k_ 3 ?_
    refine cpure (rowFact (α := Patch) (A := A1) (c := c1) (l := m1) Θ) ?_
    rintro ⟨hAy, hcy⟩
    refine cr ?_
    refine lC [] call11 (c_alive08) ?_; intro x38
    refine k_ 3 ?_
    refine lwant rfl rfl rfl rfl (o_call (is := [0, 0]) call30 (c_logOrder m1 A1 c1 (by omega) hI1.ok.fit hcy hAy pl p (idsP (madeL ops)) A25 c25 (by rw [idsP_len]; omega) hI1.ok.nodup) rfl rfl Ω rfl) ?_
    refine le ?_; rintro ⟨⟨⟨m2, e2⟩, ⟨A2, c2⟩⟩, ho2⟩
    obtain ⟨rfl, rfl⟩ := ptwo_eq (ho2.trans hb)
    refine k_ 1 ?_
    refine fixL (congrArg Value.bool (decide_eq_true rfl)) ?_
    refine k_ 3 ?_
    refine lwant rfl rfl rfl rfl (o_call (is := [1, 0]) call17 (c_logAll (madeL ops) A2 c2 (by omega) hf pl p) rfl rfl Ω rfl) ?_
    refine le ?_; rintro ⟨A47, c47⟩
    refine lmono (fun a w h => Go.Sx.freeze (i := 0) rfl h) ?_
    refine lwant rfl rfl rfl rfl (o_call (is := []) call16 (c_Olds7 (madeL ops) A47 c47 (by omega) hf) rfl rfl Ω rfl) ?_
    refine le ?_; rintro ⟨A48, c48⟩
    refine k_ 1 ?_
    refine lwant rfl rfl rfl rfl (o_call (is := []) call15 (c_rAll (madeL ops) (madeL ops) A48 A5 c48 c5 (by omega) hf hf) rfl rfl Ω rfl) ?_
    refine le ?_; intro x50
    refine fixL (congrArg Value.bool (decide_eq_true rfl)) ?_
    refine k_ 6 ?_
    exact rR [] ()
end Go.Proofs.YtppjcjlijmldiaaGreatDoor.X
end
section
set_option linter.unusedVariables false
set_option linter.unusedSimpArgs false
namespace Go.Proofs.YtppjcjlijmldiaaGreatDoor.X
open Go Go.RowKit Go.Proofs Go.Sx
open Tryz
attribute [local irreducible] slA isA box row TrL TrC TrN TrA Pu OpR
set_option maxHeartbeats 8000000
theorem needs_at {l g r : List Patch} {v : Int} {kk : Nat} (hat : atP l v = (kk : Int)) (hg : (g, r) = group (l.drop kk)) : ∀ (k : Nat) (h : k < (needsP l v).length) (h2 : k + 1 < g.length), (needsP l v)[k] = g[k + 1].id := by
 intro k h h2
 have h3 := needsP_yes hat hg
 rw [List.getElem_of_eq h3 h]
 simp only [idsP, List.getElem_map, List.getElem_drop]
 congr 2
 simp [Nat.add_comm]
theorem ids_get (l : List Patch) {k : Nat} (h : k < (idsP l).length) : (idsP l)[k] = (l[k]'(by rw [idsP_len] at h; exact h)).id := by simp only [idsP, List.getElem_map]
theorem ids_last {s : List Patch} {b : Patch} {j : Nat} (hj : j = (idsP (s ++ [b])).length - 1) (h : j < (idsP (s ++ [b])).length) : (idsP (s ++ [b]))[j] = b.id := by
 subst hj
 rw [ids_get]
 simp only [idsP_len, List.length_append, List.length_cons, List.length_nil]
 rw [List.getElem_append_right (by omega)]
 simp
set_option maxRecDepth 100000 in
theorem c_LogGets (ops : List LOp) (A0 : Option Addr) (c0 : Nat) (hlo : ops.length ≤ 2000000) (hfo : ∀ o ∈ ops, o.p.fit) (hM : (ops.map (fun o : LOp => pmany [o.p])).sum ≤ 1000000000000) (hM2 : (ops.map (fun o : LOp => o.ids.length + o.p.l.length)).sum ≤ 1000000000000) (v : Int) : Con Tryz.prog 4 [.slice A0 ops.length c0, .int .i64 v] [] [slA A0 ops] Unit (fun _ => .bool true) (fun _ => []) (fun _ => []) := by
 refine con func4 rfl ntmps4 rfl ?_
 intro M0 F0 w0
 refine k_ 9 ?_
 refine lC [] call10 (c_few8 ops A0 c0 hlo hfo hM hM2) ?_; intro x18
 refine k_ 3 ?_
 refine cc rfl ?_ ?_
 ·
  intro h19
  refine k_ 2 ?_
  refine lC [] call11 (c_alive08) ?_; intro x20
  refine k_ 5 ?_
  exact rR [] ()
 ·
  intro h19
  obtain ⟨hw1, hz8, hy8, hi8⟩ := few8_yes (ops := ops) (by have h := h19; simp at h; exact h)
  refine k_ 5 ?_
  refine lC [] call23 (c_made8 ops A0 c0 hlo hfo hz8 hy8 hi8) ?_; rintro ⟨⟨⟨A, c⟩, ⟨pl, p, b⟩⟩, ⟨A5, c5⟩⟩
  have hI := madeL_ok (ops := ops) hfo
  have hll := hI.len
  have hf := hI.ok.fit
  have hnd := hI.ok.nodup
  refine k_ 11 ?_
  refine ls (op (p_ptrnil underlying25 rfl rfl) rfl) ?_
  refine k_ 2 ?_
  refine cc rfl (fun h => by cases h) (fun h => ?_)
  refine k_ 6 ?_
  refine lC [0, 0] call24 (c_logGet (madeL ops) A c (by omega) hf pl p v) ?_; rintro ⟨⟨⟨q1, gb⟩, y31⟩, hg⟩
  dsimp only at hg
  refine k_ 3 ?_
  refine ls (o_alloc zeroValue55 rfl rfl) ?_
  refine le ?_; intro b7
  refine k_ 8 ?_
  refine lC [] call25 (c_r8At (madeL ops) A5 c5 (by omega) v) ?_; intro x36
  refine k_ 7 ?_
  refine lC [] call26 (c_r8Take (madeL ops) A5 c5 (by omega) hf v) ?_; rintro ⟨⟨⟨⟨n1, g1⟩, e1⟩, ⟨⟨A1, c1⟩, ⟨A2, c2⟩⟩⟩, ht⟩
  dsimp only at ht
  have hgl := takeP_len (madeL ops) v; rw [← ht] at hgl; dsimp only at hgl
  refine k_ 10 ?_
  refine cpure (rowFact (α := Patch) (A := A) (c := c) (l := (madeL ops)) Θ) ?_
  rintro ⟨hAx, hcx⟩
  refine k_ 3 ?_
  refine lC [2, 1] call27 (c_logNeeds2 (madeL ops) A c (by omega) hf hcx pl p v) ?_; rintro ⟨A46, c46⟩
  refine k_ 5 ?_
  rcases atP_cases (madeL ops) v with ⟨hat, hno⟩ | ⟨kk, hkk, hat, hid, _⟩
  ·
   obtain ⟨rfl, rfl⟩ := ptwo_eq (hg.trans (getP_no (by omega)))
   have hn0 := needsP_no (l := (madeL ops)) (v := v) (by omega)
   have hl0 : (needsP (madeL ops) v).length = 0 := by rw [hn0]; rfl
   refine cmono (fun a w h => Go.Sx.freeze (i := 1) rfl h) ?_
   refine cdB [] [] TryzX.mixed Ψ Ψ TOk.d ?_
   refine t_ 0 3 ?_
   refine tkB 3 rfl Ψ Υ gnone (TTany _) (p_bne underlying4 rfl rfl) rfl ?_
   refine fixB (v' := .bool false) (congrArg Value.bool (by simp; omega)) ?_
   refine t_ 4 20 ?_
   refine fixB (v' := .bool false) (congrArg Value.bool (by rw [hn0]; rfl)) ?_
   refine t_ 24 13 ?_
   refine dnB Ψ ?_
   refine k_ 1 ?_
   refine cc rfl (fun h => by cases h) (fun h => ?_)
   refine k_ 11 ?_
   refine cl (ι := {j : Nat // j ≤ (needsP (madeL ops) v).length}) (fun i => St M0 F0 w0 118 [(5, .pointer (some ⟨pl, 0, none⟩)), (6, .slice A5 (madeL ops).length c5), (11, .slice A2 g1.length c2), (13, .slice A46 (needsP (madeL ops) v).length c46), (84, .slice A46 (needsP (madeL ops) v).length c46), (85, .int .i64 ((needsP (madeL ops) v).length : Int)), (86, .int .i64 ((i.1 : Nat) : Int))] [box pl 82 [.slice A (madeL ops).length c, .pointer (some ⟨p, 0, none⟩)], row 55 A c (madeL ops), box p 119 [.map (some b)], tr b (treeP (madeL ops))] [slA A46 (needsP (madeL ops) v), slA A2 g1, slA A5 (madeL ops)]) (fun i => (needsP (madeL ops) v).length - i.1) ⟨0, Nat.zero_le _⟩ (wK [1, 0, 1, 1]) ?_
   rintro ⟨j, hj⟩
   refine cmono (S' := St M0 F0 w0 118 [(5, .pointer (some ⟨pl, 0, none⟩)), (6, .slice A5 (madeL ops).length c5), (11, .slice A2 g1.length c2), (13, .slice A46 (needsP (madeL ops) v).length c46), (84, .slice A46 (needsP (madeL ops) v).length c46), (85, .int .i64 ((needsP (madeL ops) v).length : Int)), (86, .int .i64 ((j : Nat) : Int))] [box pl 82 [.slice A (madeL ops).length c, .pointer (some ⟨p, 0, none⟩)], row 55 A c (madeL ops), box p 119 [.map (some b)], tr b (treeP (madeL ops))] [slA A46 (needsP (madeL ops) v), slA A2 g1, slA A5 (madeL ops)]) Ħ ?_
   refine k_ 6 ?_
   refine cc rfl ?_ ?_
   ·
    intro h87
    have h := h87; simp only [decide_eq_true_eq] at h; omega
   ·
    intro h87
    try simp only [nrmZ] at h87
    refine k_ 9 ?_
    refine lC [0, 0] call22 (c_logIdsW (madeL ops) A c (by omega) pl p) ?_; rintro ⟨A102, c102⟩
    refine lmono (fun a w h => Go.Sx.freeze (i := 0) rfl h) ?_
    refine k_ 5 ?_
    refine cl (ι := {j : Nat // j ≤ (idsP (madeL ops)).length}) (fun i => St M0 F0 w0 118 [(6, .slice A5 (madeL ops).length c5), (102, .slice A102 (idsP (madeL ops)).length c102), (103, .int .i64 ((idsP (madeL ops)).length : Int)), (104, .int .i64 ((i.1 : Nat) : Int))] [] [slA A102 (idsP (madeL ops)), slA A5 (madeL ops)]) (fun i => (idsP (madeL ops)).length - i.1) ⟨0, Nat.zero_le _⟩ (wK []) ?_
    rintro ⟨j, hj⟩
    refine cmono (S' := St M0 F0 w0 118 [(6, .slice A5 (madeL ops).length c5), (102, .slice A102 (idsP (madeL ops)).length c102), (103, .int .i64 ((idsP (madeL ops)).length : Int)), (104, .int .i64 ((j : Nat) : Int))] [] [slA A102 (idsP (madeL ops)), slA A5 (madeL ops)]) Ħ ?_
    refine k_ 6 ?_
    refine cc rfl ?_ ?_
    ·
     intro h105
     try simp only [nrmZ] at h105
     have hj1 : j < (idsP (madeL ops)).length := by omega
     have hj2 : j < (madeL ops).length := by rw [idsP_len] at hj1; exact hj1
     have hie := ids_get (madeL ops) hj1
     refine k_ 5 ?_
     refine elC (A := A102) (l := idsP (madeL ops)) Θ j (List.getElem?_eq_getElem hj1) ?_; rintro zbt zot zyt hAt
     refine k_ 2 ?_
     refine ls (op (p_ia j hAt hj1 rfl underlying28 sizeOf3 rfl rfl) rfl) ?_
     refine ls (o_ldi isAgg3 rfl Θ 0 rfl Δ rfl) ?_
     refine k_ 5 ?_
     refine elC (A := A5) (l := (madeL ops)) Θ j (List.getElem?_eq_getElem hj2) ?_; rintro zbu zou zyu hAu
     refine k_ 4 ?_
     refine ls (op (p_ia j hAu hj2 rfl underlying27 sizeOf31 rfl rfl) rfl) ?_
     refine k_ 1 ?_
     refine ls (o_ldi isAgg3 rfl Θ 0 rfl Δ rfl) ?_
     refine k_ 3 ?_
     refine cc rfl ?_ ?_
     ·
      intro h115
      exact absurd hie (by simpa using h115)
     ·
      intro h115
      refine k_ 7 ?_
      refine nnext ⟨j + 1, hj1⟩ (by dsimp only; omega) (wK [])
    ·
     intro h105
     try simp only [nrmZ] at h105
     refine k_ 7 ?_
     refine lC [] call11 (c_alive08) ?_; intro x117
     refine k_ 5 ?_
     exact rR [] ()
  ·
   obtain ⟨rfl, rfl⟩ := ptwo_eq (hg.trans (getP_yes hkk hat))
   obtain ⟨⟨gg, rr⟩, hgr⟩ : ∃ z, z = group (((madeL ops)).drop kk) := ⟨_, rfl⟩
   obtain ⟨_, rfl, _⟩ := ptw (ht.trans (takeP_yes hat hgr))
   have hfD : ∀ q ∈ (madeL ops).drop kk, q.fit := fun q hq => hf q (List.mem_of_mem_drop hq)
   have hgp := group_pos (l := (madeL ops).drop kk) (by rw [List.length_drop]; omega) hgr
   have hnl : (needsP (madeL ops) v).length = g1.length - 1 := by rw [needsP_yes hat hgr, idsP_len, List.length_drop]
   have hna := needs_at hat hgr
   have hfk := hf _ (List.getElem_mem hkk)
   refine elC (A := A5) (l := (madeL ops)) Θ kk (List.getElem?_eq_getElem hkk) ?_; rintro zbs zos zys hAs
   refine cmono (fun a w h => Go.Sx.freeze (i := 1) rfl h) ?_
   refine cdB [8, 13] [(7, b7, 0, _), (12, zbs, zos + kk * Rp.size Patch, _)] TryzX.mixed Ψ Ψ (TOk.t (isBoxS Θ (k := 4) Δ) (TOk.t (isInS Θ (k := 0) rfl (z := 4) Δ) TOk.d)) ?_
   refine t_ 0 3 ?_
   refine tkB 3 rfl Ψ Υ gnone (TTany _) (p_bne underlying4 rfl rfl) rfl ?_
   refine fixB (v' := .bool false) (congrArg Value.bool (by simp; omega)) ?_
   refine t_ 4 3 ?_
   refine tkB 7 rfl Ψ Υ (gyes rfl rfl rfl rfl) (TTat (List.Mem.head _)) (p_lda isAgg55 sizeOf55 rfl rfl) rfl ?_
   refine t_ 9 2 ?_
   refine tkB 11 rfl Ψ Υ (gyes rfl rfl rfl rfl) (TTany _) (p_ia kk hAs hkk hat underlying27 sizeOf31 rfl rfl) rfl ?_
   refine tkB 12 rfl Ψ Υ (gyes rfl rfl rfl rfl) (TTat (List.Mem.tail _ (List.Mem.head _))) (p_lda isAgg31 sizeOf31 rfl rfl) rfl ?_
   refine dfB 8 Ψ ?_
   refine doGB rfl rfl rfl rfl rfl (o_call (is := []) call29 (c_Old7 (madeL ops)[kk] y31 hfk) rfl rfl Ω rfl) (TOk.xP 8 [] Ψ (TOk.t (isBoxE fun _ => isInS Θ (k := 0) rfl (z := 4) Δ) TOk.d)) ?_
   refine eaB ?_; intro y55
   refine dfB 13 Ψ ?_
   refine doGB rfl rfl rfl rfl rfl (o_call (is := []) call28 (c_rSame (madeL ops)[kk] (madeL ops)[kk] y55 zys hfk hfk) rfl rfl Ω rfl) (TOk.xP 8 [] Ψ (TOk.xP 13 [] Ψ TOk.d)) ?_
   refine eaB ?_; intro x60
   refine fixB (congrArg Value.bool (decide_eq_true rfl)) ?_
   refine t_ 14 19 ?_
   refine tkB 33 rfl Ψ Υ (gyes rfl rfl rfl rfl) (TTany _) (p_sub rfl rfl (by dsimp only; omega)) rfl ?_
   refine t_ 34 1 ?_
   refine fixB (v' := .bool false) (congrArg Value.bool (by simp only [Bool.not_eq_false', decide_eq_true_eq]; omega)) ?_
   refine t_ 35 2 ?_
   refine dnB Ψ ?_
   refine k_ 1 ?_
   refine cc rfl (fun h => by cases h) (fun h => ?_)
   refine k_ 11 ?_
   refine cl (ι := {j : Nat // j ≤ (needsP (madeL ops) v).length}) (fun i => St M0 F0 w0 118 [(5, .pointer (some ⟨pl, 0, none⟩)), (6, .slice A5 (madeL ops).length c5), (11, .slice A2 g1.length c2), (13, .slice A46 (needsP (madeL ops) v).length c46), (84, .slice A46 (needsP (madeL ops) v).length c46), (85, .int .i64 ((needsP (madeL ops) v).length : Int)), (86, .int .i64 ((i.1 : Nat) : Int))] [box pl 82 [.slice A (madeL ops).length c, .pointer (some ⟨p, 0, none⟩)], row 55 A c (madeL ops), box p 119 [.map (some b)], tr b (treeP (madeL ops))] [slA A46 (needsP (madeL ops) v), slA A2 g1, slA A5 (madeL ops)]) (fun i => (needsP (madeL ops) v).length - i.1) ⟨0, Nat.zero_le _⟩ (wK [1, 0, 1, 1]) ?_
   rintro ⟨j, hj⟩
   refine cmono (S' := St M0 F0 w0 118 [(5, .pointer (some ⟨pl, 0, none⟩)), (6, .slice A5 (madeL ops).length c5), (11, .slice A2 g1.length c2), (13, .slice A46 (needsP (madeL ops) v).length c46), (84, .slice A46 (needsP (madeL ops) v).length c46), (85, .int .i64 ((needsP (madeL ops) v).length : Int)), (86, .int .i64 ((j : Nat) : Int))] [box pl 82 [.slice A (madeL ops).length c, .pointer (some ⟨p, 0, none⟩)], row 55 A c (madeL ops), box p 119 [.map (some b)], tr b (treeP (madeL ops))] [slA A46 (needsP (madeL ops) v), slA A2 g1, slA A5 (madeL ops)]) Ħ ?_
   refine k_ 6 ?_
   refine cc rfl ?_ ?_
   ·
    intro h87
    try simp only [nrmZ] at h87
    have hj1 : j < (needsP (madeL ops) v).length := by omega
    have hj2 : j + 1 < g1.length := by omega
    have hne := hna j hj1 hj2
    refine k_ 11 ?_
    refine elC (A := A46) (l := (needsP (madeL ops) v)) Θ j (List.getElem?_eq_getElem hj1) ?_; rintro zbt zot zyt hAt
    refine elC (A := A2) (l := g1) Θ (j + 1) (List.getElem?_eq_getElem hj2) ?_; rintro zbu zou zyu hAu
    refine cdB [] [(3, zbt, zot + j * Rp.size Int, _), (9, zbu, zou + (j + 1) * Rp.size Patch, _)] TryzX.mixed Ψ Ψ (TOk.t (isInS Θ (k := 0) rfl (z := 1) Δ) (TOk.t (isInS Θ (k := 0) rfl (z := 1) Δ) TOk.d)) ?_
    refine t_ 0 2 ?_
    refine tkB 2 rfl Ψ Υ gnone (TTany _) (p_ia j hAt hj1 rfl underlying28 sizeOf3 rfl rfl) rfl ?_
    refine t_ 3 4 ?_
    refine tkB 7 rfl Ψ Υ gnone (TTany _) (p_ia (j + 1) hAu hj2 (by omega) underlying27 sizeOf31 rfl rfl) rfl ?_
    refine t_ 8 3 ?_
    refine fixB (v' := .bool false) (congrArg Value.bool (by simp [hne])) ?_
    refine dnB Ψ ?_
    refine k_ 1 ?_
    refine cc rfl (fun h => by cases h) (fun h => ?_)
    refine k_ 7 ?_
    refine nnext ⟨j + 1, hj1⟩ (by dsimp only; omega) (wK [0, 0, 0, 0])
   ·
    intro h87
    try simp only [nrmZ] at h87
    refine k_ 9 ?_
    refine lC [0, 0] call22 (c_logIdsW (madeL ops) A c (by omega) pl p) ?_; rintro ⟨A102, c102⟩
    refine lmono (fun a w h => Go.Sx.freeze (i := 0) rfl h) ?_
    refine k_ 5 ?_
    refine cl (ι := {j : Nat // j ≤ (idsP (madeL ops)).length}) (fun i => St M0 F0 w0 118 [(6, .slice A5 (madeL ops).length c5), (102, .slice A102 (idsP (madeL ops)).length c102), (103, .int .i64 ((idsP (madeL ops)).length : Int)), (104, .int .i64 ((i.1 : Nat) : Int))] [] [slA A102 (idsP (madeL ops)), slA A5 (madeL ops)]) (fun i => (idsP (madeL ops)).length - i.1) ⟨0, Nat.zero_le _⟩ (wK []) ?_
    rintro ⟨j, hj⟩
    refine cmono (S' := St M0 F0 w0 118 [(6, .slice A5 (madeL ops).length c5), (102, .slice A102 (idsP (madeL ops)).length c102), (103, .int .i64 ((idsP (madeL ops)).length : Int)), (104, .int .i64 ((j : Nat) : Int))] [] [slA A102 (idsP (madeL ops)), slA A5 (madeL ops)]) Ħ ?_
    refine k_ 6 ?_
    refine cc rfl ?_ ?_
    ·
     intro h105
     try simp only [nrmZ] at h105
     have hj1 : j < (idsP (madeL ops)).length := by omega
     have hj2 : j < (madeL ops).length := by rw [idsP_len] at hj1; exact hj1
     have hie := ids_get (madeL ops) hj1
     refine k_ 5 ?_
     refine elC (A := A102) (l := idsP (madeL ops)) Θ j (List.getElem?_eq_getElem hj1) ?_; rintro zbt zot zyt hAt
     refine k_ 2 ?_
     refine ls (op (p_ia j hAt hj1 rfl underlying28 sizeOf3 rfl rfl) rfl) ?_
     refine ls (o_ldi isAgg3 rfl Θ 0 rfl Δ rfl) ?_
     refine k_ 5 ?_
     refine elC (A := A5) (l := (madeL ops)) Θ j (List.getElem?_eq_getElem hj2) ?_; rintro zbu zou zyu hAu
     refine k_ 4 ?_
     refine ls (op (p_ia j hAu hj2 rfl underlying27 sizeOf31 rfl rfl) rfl) ?_
     refine k_ 1 ?_
     refine ls (o_ldi isAgg3 rfl Θ 0 rfl Δ rfl) ?_
     refine k_ 3 ?_
     refine cc rfl ?_ ?_
     ·
      intro h115
      exact absurd hie (by simpa using h115)
     ·
      intro h115
      refine k_ 7 ?_
      refine nnext ⟨j + 1, hj1⟩ (by dsimp only; omega) (wK [])
    ·
     intro h105
     try simp only [nrmZ] at h105
     refine k_ 7 ?_
     refine lC [] call11 (c_alive08) ?_; intro x117
     refine k_ 5 ?_
     exact rR [] ()
end Go.Proofs.YtppjcjlijmldiaaGreatDoor.X
end
section
set_option linter.unusedVariables false
set_option linter.unusedSimpArgs false
namespace Go.Proofs.YtppjcjlijmldiaaGreatDoor.X
open Go Go.RowKit Go.Proofs Go.Sx
open Tryz
attribute [local irreducible] slA isA box row TrL TrC TrN TrA Pu OpR
set_option maxHeartbeats 8000000
set_option maxRecDepth 100000 in
theorem c_LogKeeps (ops : List LOp) (A0 : Option Addr) (c0 : Nat) (hlo : ops.length ≤ 2000000) (hfo : ∀ o ∈ ops, o.p.fit) (hM : (ops.map (fun o : LOp => pmany [o.p])).sum ≤ 1000000000000) (hM2 : (ops.map (fun o : LOp => o.ids.length + o.p.l.length)).sum ≤ 1000000000000) (v : Int) (ids : List Int) (B : Option Addr) (c' : Nat) (hids : ids.length ≤ 2000000) : Con Tryz.prog 7 [.slice A0 ops.length c0, .int .i64 v, .slice B ids.length c'] [] [slA A0 ops, slA B ids] Unit (fun _ => .bool true) (fun _ => []) (fun _ => []) := by
 refine con func7 rfl ntmps7 rfl ?_
 intro M0 F0 w0
 refine k_ 9 ?_
 refine lC [] call10 (c_few8 ops A0 c0 hlo hfo hM hM2) ?_; intro x15
 refine k_ 2 ?_
 refine orX 4 17 21 rfl (sL [0, 1, 2, 6]) ?_ ?_
 ·
  intro h17
  refine k_ 4 ?_
  refine ln (nmid (wk0 Φ Ω))
 apply exI
 ·
  intro h17
  refine k_ 4 ?_
  refine ln (nmid (wk0 Φ Ω))
 ·
  refine k_ 2 ?_
  refine cc rfl ?_ ?_
  ·
   intro h21
   refine k_ 2 ?_
   refine lC [] call11 (c_alive08) ?_; intro x22
   refine k_ 5 ?_
   exact rR [] ()
  ·
   intro h21
   obtain ⟨hw1, hz8, hy8, hi8⟩ := few8_yes (ops := ops) (by have h := h21; simp at h; exact h.1)
   refine k_ 5 ?_
   refine lC [] call23 (c_made8 ops A0 c0 hlo hfo hz8 hy8 hi8) ?_; rintro ⟨⟨⟨A, c⟩, ⟨pl, p, b⟩⟩, ⟨A5, c5⟩⟩
   have hI := madeL_ok (ops := ops) hfo
   have hll := hI.len
   have hf := hI.ok.fit
   have hnd := hI.ok.nodup
   refine k_ 11 ?_
   refine ls (op (p_ptrnil underlying25 rfl rfl) rfl) ?_
   refine k_ 2 ?_
   refine cc rfl (fun h => by cases h) (fun h => ?_)
   refine k_ 5 ?_
   refine lC [0, 1, 1] call20 (c_logTree pl p b (treeP (madeL ops)) (.slice A (madeL ops).length c)) ?_; rintro ⟨p9, b9⟩
   refine k_ 4 ?_
   refine cpure (rowFact (α := Patch) (A := A) (c := c) (l := (madeL ops)) Θ) ?_
   rintro ⟨hAx, hcx⟩
   refine k_ 3 ?_
   refine lC [5, 2] call33 (c_logLast (madeL ops) A c (by omega) hf hcx hAx pl p v) ?_; rintro ⟨⟨⟨m1, e1⟩, ⟨A1, c1⟩⟩, ho⟩
   dsimp only at ho
   have hI1 : LogI (omz ops) (omy ops) m1 (treeP (madeL ops)) := by have h := hI.last v; rw [← ho] at h; exact h
   have hl1 := hI1.len
   refine k_ 6 ?_
   refine lC [1, 0] call22 (c_logIdsW m1 A1 c1 (by omega) pl p) ?_; rintro ⟨A36, c36⟩
   refine lmono (fun a w h => Go.Sx.freeze (i := 0) rfl h) ?_
   refine k_ 5 ?_
   by_cases he : e1 = 0
   ·
    subst he
    obtain ⟨sl, bl, rfl, hbl⟩ := lastP_id ho.symm
    have hil : (idsP (sl ++ [bl])).length = sl.length + 1 := by rw [idsP_len, List.length_append]; rfl
    have hib : sl.length + 1 ≤ omy ops := by have h := hl1; rw [List.length_append] at h; exact h
    have hlt : (idsP (sl ++ [bl])).length - 1 < (idsP (sl ++ [bl])).length := by omega
    have hlast := ids_last (s := sl) (b := bl) rfl hlt
    refine elC (A := A36) (l := idsP (sl ++ [bl])) Θ ((idsP (sl ++ [bl])).length - 1) (List.getElem?_eq_getElem hlt) ?_; rintro zbt zot zyt hAt
    refine k_ 3 ?_
    refine fixL (congrArg Value.bool (decide_eq_true rfl)) ?_
    refine k_ 4 ?_
    refine fixL (v' := .bool false) (congrArg Value.bool (decide_eq_false (by omega))) ?_
    refine k_ 5 ?_
    refine lwant rfl rfl rfl rfl (op (p_ia ((idsP (sl ++ [bl])).length - 1) hAt hlt (by omega) underlying28 sizeOf3 rfl rfl) rfl) ?_
    refine lwant rfl rfl rfl rfl (o_ldi isAgg3 rfl Θ 0 rfl Δ rfl) ?_
    refine k_ 2 ?_
    refine fixL (v' := .bool false) (congrArg Value.bool (by simp [hlast, hbl])) ?_
    refine k_ 4 ?_
    refine lwant rfl rfl rfl rfl (o_call (is := [0, 3, 3]) call20 (c_logTree pl p b (treeP (madeL ops)) _) rfl rfl Ω rfl) ?_
    refine le ?_; rintro ⟨p3, b3⟩
    refine k_ 1 ?_
    refine lwant rfl rfl rfl rfl (o_call (is := [0, 0, 4, 4]) call34 (c_tSame p3 b3 p9 b9 (treeP (madeL ops)) (treeP (madeL ops)) (fun x hx => Nat.le_trans (hI.app.lmax x hx) (by omega))) rfl rfl Ω rfl) ?_
    refine le ?_; intro x58
    refine fixL (congrArg Value.bool (decide_eq_true rfl)) ?_
    refine k_ 4 ?_
    refine cc rfl (fun h => by cases h) (fun h => ?_)
    refine k_ 4 ?_
    refine cpure (rowFact (α := Patch) (A := A1) (c := c1) (l := _) Θ) ?_
    rintro ⟨hAy, hcy⟩
    refine k_ 3 ?_
    refine lC [7, 4] call30 (c_logOrder _ A1 c1 (by omega) hI1.ok.fit hcy hAy pl p ids B c' hids hI1.ok.nodup) ?_; rintro ⟨⟨⟨m2, e2⟩, ⟨A2, c2⟩⟩, ho2⟩
    dsimp only at ho2
    have hI2 : LogI (omz ops) (omy ops) m2 (treeP (madeL ops)) := by have h := hI1.order ids; rw [← ho2] at h; exact h
    have hl2 := hI2.len
    refine k_ 3 ?_
    refine cc rfl ?_ ?_
    ·
     intro h64
     obtain rfl : e2 = 0 := by have h := h64; simpa using h
     have hie := orderP_ids ho2.symm
     refine k_ 3 ?_
     refine lC [1, 0] call22 (c_logIdsW m2 A2 c2 (by omega) pl p) ?_; rintro ⟨A66, c66⟩
     refine lmono (fun a w h => Go.Sx.freeze (i := 0) rfl h) ?_
     refine k_ 5 ?_
     refine cl (ι := {j : Nat // j ≤ (idsP m2).length}) (fun i => St M0 F0 w0 87 [(2, .slice B ids.length c'), (7, .pointer (some ⟨pl, 0, none⟩)), (9, .pointer (some ⟨p9, 0, none⟩)), (66, .slice A66 (idsP m2).length c66), (67, .int .i64 ((idsP m2).length : Int)), (68, .int .i64 ((i.1 : Nat) : Int))] [box pl 82 [.slice A2 m2.length c2, .pointer (some ⟨p, 0, none⟩)], row 55 A2 c2 m2, box p9 119 [.map (some b9)], tr b9 (treeP (madeL ops)), box p 119 [.map (some b)], tr b (treeP (madeL ops))] [slA A66 (idsP m2), slA B ids]) (fun i => (idsP m2).length - i.1) ⟨0, Nat.zero_le _⟩ (wK [0, 0, 2, 2, 2, 2]) ?_
     rintro ⟨j, hj⟩
     refine cmono (S' := St M0 F0 w0 87 [(2, .slice B ids.length c'), (7, .pointer (some ⟨pl, 0, none⟩)), (9, .pointer (some ⟨p9, 0, none⟩)), (66, .slice A66 (idsP m2).length c66), (67, .int .i64 ((idsP m2).length : Int)), (68, .int .i64 ((j : Nat) : Int))] [box pl 82 [.slice A2 m2.length c2, .pointer (some ⟨p, 0, none⟩)], row 55 A2 c2 m2, box p9 119 [.map (some b9)], tr b9 (treeP (madeL ops)), box p 119 [.map (some b)], tr b (treeP (madeL ops))] [slA A66 (idsP m2), slA B ids]) Ħ ?_
     refine k_ 6 ?_
     refine cc rfl ?_ ?_
     ·
      intro h69
      try simp only [nrmZ] at h69
      have hj1 : j < (idsP m2).length := by omega
      have hj2 : j < ids.length := by rw [hie] at hj1; exact hj1
      have hje := List.getElem_of_eq hie hj1
      refine k_ 5 ?_
      refine elC (A := A66) (l := idsP m2) Θ j (List.getElem?_eq_getElem hj1) ?_; rintro zbt zot zyt hAt
      refine k_ 2 ?_
      refine ls (op (p_ia j hAt hj1 rfl underlying28 sizeOf3 rfl rfl) rfl) ?_
      refine ls (o_ldi isAgg3 rfl Θ 0 rfl Δ rfl) ?_
      refine k_ 5 ?_
      refine elC (A := B) (l := ids) Θ j (List.getElem?_eq_getElem hj2) ?_; rintro zbu zou zyu hAu
      refine k_ 4 ?_
      refine ls (op (p_ia j hAu hj2 rfl underlying28 sizeOf3 rfl rfl) rfl) ?_
      refine ls (o_ldi isAgg3 rfl Θ 0 rfl Δ rfl) ?_
      refine k_ 3 ?_
      refine cc rfl ?_ ?_
      ·
       intro h78
       exact absurd hje (by simpa using h78)
      ·
       intro h78
       refine k_ 7 ?_
       refine nnext ⟨j + 1, hj1⟩ (by dsimp only; omega) (wK [0, 0, 0, 0, 0, 0])
     ·
      intro h69
      try simp only [nrmZ] at h69
      refine k_ 7 ?_
      refine lC [] call11 (c_alive08) ?_; intro x80
      refine k_ 2 ?_
      refine lwant rfl rfl rfl rfl (o_call (is := [0, 3, 3]) call20 (c_logTree pl p b (treeP (madeL ops)) _) rfl rfl Ω rfl) ?_
      refine le ?_; rintro ⟨p4, b4⟩
      refine k_ 1 ?_
      refine lwant rfl rfl rfl rfl (o_call (is := [0, 0, 4, 4]) call34 (c_tSame p4 b4 p9 b9 (treeP (madeL ops)) (treeP (madeL ops)) (fun x hx => Nat.le_trans (hI.app.lmax x hx) (by omega))) rfl rfl Ω rfl) ?_
      refine le ?_; intro x85
      refine fixL (congrArg Value.bool (decide_eq_true rfl)) ?_
      refine k_ 6 ?_
      exact rR [] ()
    ·
     intro h64
     refine k_ 4 ?_
     refine lC [] call11 (c_alive08) ?_; intro x80
     refine k_ 2 ?_
     refine lwant rfl rfl rfl rfl (o_call (is := [1, 5, 5]) call20 (c_logTree pl p b (treeP (madeL ops)) _) rfl rfl Ω rfl) ?_
     refine le ?_; rintro ⟨p4, b4⟩
     refine k_ 1 ?_
     refine lwant rfl rfl rfl rfl (o_call (is := [0, 0, 6, 6]) call34 (c_tSame p4 b4 p9 b9 (treeP (madeL ops)) (treeP (madeL ops)) (fun x hx => Nat.le_trans (hI.app.lmax x hx) (by omega))) rfl rfl Ω rfl) ?_
     refine le ?_; intro x85
     refine fixL (congrArg Value.bool (decide_eq_true rfl)) ?_
     refine k_ 6 ?_
     exact rR [] ()
   ·
    refine k_ 3 ?_
    refine fixL (congrArg Value.bool (decide_eq_false he)) ?_
    refine k_ 17 ?_
    refine lwant rfl rfl rfl rfl (o_call (is := [0, 3, 3]) call20 (c_logTree pl p b (treeP (madeL ops)) _) rfl rfl Ω rfl) ?_
    refine le ?_; rintro ⟨p3, b3⟩
    refine k_ 1 ?_
    refine lwant rfl rfl rfl rfl (o_call (is := [0, 0, 4, 4]) call34 (c_tSame p3 b3 p9 b9 (treeP (madeL ops)) (treeP (madeL ops)) (fun x hx => Nat.le_trans (hI.app.lmax x hx) (by omega))) rfl rfl Ω rfl) ?_
    refine le ?_; intro x58
    refine fixL (congrArg Value.bool (decide_eq_true rfl)) ?_
    refine k_ 4 ?_
    refine cc rfl (fun h => by cases h) (fun h => ?_)
    refine k_ 4 ?_
    refine cpure (rowFact (α := Patch) (A := A1) (c := c1) (l := _) Θ) ?_
    rintro ⟨hAy, hcy⟩
    refine k_ 3 ?_
    refine lC [7, 4] call30 (c_logOrder _ A1 c1 (by omega) hI1.ok.fit hcy hAy pl p ids B c' hids hI1.ok.nodup) ?_; rintro ⟨⟨⟨m2, e2⟩, ⟨A2, c2⟩⟩, ho2⟩
    dsimp only at ho2
    have hI2 : LogI (omz ops) (omy ops) m2 (treeP (madeL ops)) := by have h := hI1.order ids; rw [← ho2] at h; exact h
    have hl2 := hI2.len
    refine k_ 3 ?_
    refine cc rfl ?_ ?_
    ·
     intro h64
     obtain rfl : e2 = 0 := by have h := h64; simpa using h
     have hie := orderP_ids ho2.symm
     refine k_ 3 ?_
     refine lC [1, 0] call22 (c_logIdsW m2 A2 c2 (by omega) pl p) ?_; rintro ⟨A66, c66⟩
     refine lmono (fun a w h => Go.Sx.freeze (i := 0) rfl h) ?_
     refine k_ 5 ?_
     refine cl (ι := {j : Nat // j ≤ (idsP m2).length}) (fun i => St M0 F0 w0 87 [(2, .slice B ids.length c'), (7, .pointer (some ⟨pl, 0, none⟩)), (9, .pointer (some ⟨p9, 0, none⟩)), (66, .slice A66 (idsP m2).length c66), (67, .int .i64 ((idsP m2).length : Int)), (68, .int .i64 ((i.1 : Nat) : Int))] [box pl 82 [.slice A2 m2.length c2, .pointer (some ⟨p, 0, none⟩)], row 55 A2 c2 m2, box p9 119 [.map (some b9)], tr b9 (treeP (madeL ops)), box p 119 [.map (some b)], tr b (treeP (madeL ops))] [slA A66 (idsP m2), slA B ids]) (fun i => (idsP m2).length - i.1) ⟨0, Nat.zero_le _⟩ (wK [0, 0, 2, 2, 2, 2]) ?_
     rintro ⟨j, hj⟩
     refine cmono (S' := St M0 F0 w0 87 [(2, .slice B ids.length c'), (7, .pointer (some ⟨pl, 0, none⟩)), (9, .pointer (some ⟨p9, 0, none⟩)), (66, .slice A66 (idsP m2).length c66), (67, .int .i64 ((idsP m2).length : Int)), (68, .int .i64 ((j : Nat) : Int))] [box pl 82 [.slice A2 m2.length c2, .pointer (some ⟨p, 0, none⟩)], row 55 A2 c2 m2, box p9 119 [.map (some b9)], tr b9 (treeP (madeL ops)), box p 119 [.map (some b)], tr b (treeP (madeL ops))] [slA A66 (idsP m2), slA B ids]) Ħ ?_
     refine k_ 6 ?_
     refine cc rfl ?_ ?_
     ·
      intro h69
      try simp only [nrmZ] at h69
      have hj1 : j < (idsP m2).length := by omega
      have hj2 : j < ids.length := by rw [hie] at hj1; exact hj1
      have hje := List.getElem_of_eq hie hj1
      refine k_ 5 ?_
      refine elC (A := A66) (l := idsP m2) Θ j (List.getElem?_eq_getElem hj1) ?_; rintro zbt zot zyt hAt
      refine k_ 2 ?_
      refine ls (op (p_ia j hAt hj1 rfl underlying28 sizeOf3 rfl rfl) rfl) ?_
      refine ls (o_ldi isAgg3 rfl Θ 0 rfl Δ rfl) ?_
      refine k_ 5 ?_
      refine elC (A := B) (l := ids) Θ j (List.getElem?_eq_getElem hj2) ?_; rintro zbu zou zyu hAu
      refine k_ 4 ?_
      refine ls (op (p_ia j hAu hj2 rfl underlying28 sizeOf3 rfl rfl) rfl) ?_
      refine ls (o_ldi isAgg3 rfl Θ 0 rfl Δ rfl) ?_
      refine k_ 3 ?_
      refine cc rfl ?_ ?_
      ·
       intro h78
       exact absurd hje (by simpa using h78)
      ·
       intro h78
       refine k_ 7 ?_
       refine nnext ⟨j + 1, hj1⟩ (by dsimp only; omega) (wK [0, 0, 0, 0, 0, 0])
     ·
      intro h69
      try simp only [nrmZ] at h69
      refine k_ 7 ?_
      refine lC [] call11 (c_alive08) ?_; intro x80
      refine k_ 2 ?_
      refine lwant rfl rfl rfl rfl (o_call (is := [0, 3, 3]) call20 (c_logTree pl p b (treeP (madeL ops)) _) rfl rfl Ω rfl) ?_
      refine le ?_; rintro ⟨p4, b4⟩
      refine k_ 1 ?_
      refine lwant rfl rfl rfl rfl (o_call (is := [0, 0, 4, 4]) call34 (c_tSame p4 b4 p9 b9 (treeP (madeL ops)) (treeP (madeL ops)) (fun x hx => Nat.le_trans (hI.app.lmax x hx) (by omega))) rfl rfl Ω rfl) ?_
      refine le ?_; intro x85
      refine fixL (congrArg Value.bool (decide_eq_true rfl)) ?_
      refine k_ 6 ?_
      exact rR [] ()
    ·
     intro h64
     refine k_ 4 ?_
     refine lC [] call11 (c_alive08) ?_; intro x80
     refine k_ 2 ?_
     refine lwant rfl rfl rfl rfl (o_call (is := [1, 5, 5]) call20 (c_logTree pl p b (treeP (madeL ops)) _) rfl rfl Ω rfl) ?_
     refine le ?_; rintro ⟨p4, b4⟩
     refine k_ 1 ?_
     refine lwant rfl rfl rfl rfl (o_call (is := [0, 0, 6, 6]) call34 (c_tSame p4 b4 p9 b9 (treeP (madeL ops)) (treeP (madeL ops)) (fun x hx => Nat.le_trans (hI.app.lmax x hx) (by omega))) rfl rfl Ω rfl) ?_
     refine le ?_; intro x85
     refine fixL (congrArg Value.bool (decide_eq_true rfl)) ?_
     refine k_ 6 ?_
     exact rR [] ()
set_option maxRecDepth 100000 in
theorem c_LogSame (o1 : List LOp) (E1 : Option Addr) (f1 : Nat) (hloo1 : o1.length ≤ 2000000) (hfoo1 : ∀ o ∈ o1, o.p.fit) (hMo1 : (o1.map (fun o : LOp => pmany [o.p])).sum ≤ 1000000000000) (hNo1 : (o1.map (fun o : LOp => o.ids.length + o.p.l.length)).sum ≤ 1000000000000) (o2 : List LOp) (E2 : Option Addr) (f2 : Nat) (hloo2 : o2.length ≤ 2000000) (hfoo2 : ∀ o ∈ o2, o.p.fit) (hMo2 : (o2.map (fun o : LOp => pmany [o.p])).sum ≤ 1000000000000) (hNo2 : (o2.map (fun o : LOp => o.ids.length + o.p.l.length)).sum ≤ 1000000000000) : Con Tryz.prog 9 [.slice E1 o1.length f1, .slice E2 o2.length f2] [] [slA E1 o1, slA E2 o2] Unit (fun _ => .bool true) (fun _ => []) (fun _ => []) := by
 refine con func9 rfl ntmps9 rfl ?_
 intro M0 F0 w0
 refine k_ 9 ?_
 refine lC [] call10 (c_few8 o1 E1 f1 hloo1 hfoo1 hMo1 hNo1) ?_; intro x11
 refine k_ 2 ?_
 refine orX 4 13 17 rfl (sL [0, 1, 4]) ?_ ?_
 ·
  intro h13
  refine k_ 4 ?_
  refine ln (nmid (wk0 Φ Ω))
 apply exI
 ·
  intro h13
  refine k_ 1 ?_
  refine lwant rfl rfl rfl rfl (o_call (is := []) call10 (c_few8 o2 E2 f2 hloo2 hfoo2 hMo2 hNo2) rfl rfl Ω rfl) ?_
  refine le ?_; intro x15
  refine k_ 2 ?_
  refine ln (nmid (wk0 Φ Ω))
 ·
  refine k_ 2 ?_
  refine cc rfl ?_ ?_
  ·
   intro h17
   refine k_ 2 ?_
   refine lC [] call11 (c_alive08) ?_; intro x18
   refine k_ 5 ?_
   exact rR [] ()
  ·
   intro h17
   have hw : few8 o1 = true ∧ few8 o2 = true := by have h := h17; simpa using h
   obtain ⟨hw1, hzo1, hyo1, hio1⟩ := few8_yes hw.1
   obtain ⟨hw2, hzo2, hyo2, hio2⟩ := few8_yes hw.2
   refine k_ 5 ?_
   refine lC [] call23 (c_made8 o1 E1 f1 hloo1 hfoo1 hzo1 hyo1 hio1) ?_; rintro ⟨⟨⟨A1, c1⟩, ⟨pl1, p1, b1⟩⟩, ⟨D1, d1⟩⟩
   have hI1 := madeL_ok (ops := o1) hfoo1
   have hll1 := hI1.len
   have hf1 := hI1.ok.fit
   have hnd1 := hI1.ok.nodup
   refine k_ 10 ?_
   refine lC [] call23 (c_made8 o2 E2 f2 hloo2 hfoo2 hzo2 hyo2 hio2) ?_; rintro ⟨⟨⟨A2, c2⟩, ⟨pl2, p2, b2⟩⟩, ⟨D2, d2⟩⟩
   have hI2 := madeL_ok (ops := o2) hfoo2
   have hll2 := hI2.len
   have hf2 := hI2.ok.fit
   have hnd2 := hI2.ok.nodup
   refine k_ 11 ?_
   refine ls (op (p_ptrnil underlying25 rfl rfl) rfl) ?_
   refine k_ 2 ?_
   refine lwant rfl rfl rfl rfl (op (p_ptrnil underlying25 rfl rfl) rfl) ?_
   refine k_ 3 ?_
   refine cc rfl (fun h => by cases h) (fun h => ?_)
   refine k_ 3 ?_
   cases hs : sameP (madeL o1) (madeL o2)
   ·
    refine k_ 3 ?_
    refine lC [4, 4, 0, 0, 0, 0] call37 (c_logSame (madeL o1) (madeL o2) A1 A2 c1 c2 (by omega) hf1 (by omega) hf2 hnd2 pl1 p1 pl2 p2 b2 (treeP (madeL o2))) ?_; intro x37
    refine fixL (congrArg Value.bool hs) ?_
    refine k_ 5 ?_
    refine lC [] call11 (c_alive08) ?_; intro x38
    refine k_ 4 ?_
    refine lwant rfl rfl rfl rfl (o_call (is := []) call40 (c_r8Same (madeL o1) (madeL o2) D1 D2 d1 d2 (by omega) (by omega) hf1 hf2 hnd2) rfl rfl Ω rfl) ?_
    refine le ?_; intro x43
    refine fixL (congrArg Value.bool hs) ?_
    refine lwant rfl rfl rfl rfl (op (p_beq underlying4 rfl rfl) rfl) ?_
    refine fixL (v' := .bool true) rfl ?_
    refine k_ 15 ?_
    refine lwant rfl rfl rfl rfl (o_call (is := [0, 0, 4, 4]) call37 (c_logSame1 (madeL o1) A1 c1 (by omega) hf1 hnd1 pl1 p1 b1 (treeP (madeL o1))) rfl rfl Ω rfl) ?_
    refine le ?_; intro x60
    refine fixL (congrArg Value.bool (sameP_refl _)) ?_
    refine k_ 6 ?_
    exact rR [] ()
   ·
    have hT : treeP (madeL o1) = treeP (madeL o2) := by have h := hI2.swp (orderP_swp (madeL o2) (idsP (madeL o1))); rw [sameP_iff.1 hs] at h; exact h.tree
    refine k_ 3 ?_
    refine lC [4, 4, 0, 0, 0, 0] call37 (c_logSame (madeL o1) (madeL o2) A1 A2 c1 c2 (by omega) hf1 (by omega) hf2 hnd2 pl1 p1 pl2 p2 b2 (treeP (madeL o2))) ?_; intro x37
    refine fixL (congrArg Value.bool hs) ?_
    refine k_ 5 ?_
    refine lC [] call11 (c_alive08) ?_; intro x38
    refine k_ 4 ?_
    refine lwant rfl rfl rfl rfl (o_call (is := []) call40 (c_r8Same (madeL o1) (madeL o2) D1 D2 d1 d2 (by omega) (by omega) hf1 hf2 hnd2) rfl rfl Ω rfl) ?_
    refine le ?_; intro x43
    refine fixL (congrArg Value.bool hs) ?_
    refine lwant rfl rfl rfl rfl (op (p_beq underlying4 rfl rfl) rfl) ?_
    refine fixL (v' := .bool true) rfl ?_
    refine k_ 6 ?_
    refine lwant rfl rfl rfl rfl (o_call (is := [0, 5, 5]) call20 (c_logTree pl1 p1 b1 (treeP (madeL o1)) _) rfl rfl Ω rfl) ?_
    refine le ?_; rintro ⟨p3, b3⟩
    refine k_ 1 ?_
    refine lwant rfl rfl rfl rfl (o_call (is := [6, 7, 7]) call20 (c_logTree pl2 p2 b2 (treeP (madeL o2)) _) rfl rfl Ω rfl) ?_
    refine le ?_; rintro ⟨p4, b4⟩
    refine lwant rfl rfl rfl rfl (o_call (is := [5, 5, 0, 0]) call34 (c_tSame p3 b3 p4 b4 (treeP (madeL o1)) (treeP (madeL o2)) (fun x hx => Nat.le_trans (hI1.app.lmax x hx) (by omega))) rfl rfl Ω rfl) ?_
    refine le ?_; intro x54
    refine fixL (congrArg Value.bool (decide_eq_true hT)) ?_
    refine k_ 5 ?_
    refine lwant rfl rfl rfl rfl (o_call (is := [7, 9, 7, 7]) call37 (c_logSame1 (madeL o1) A1 c1 (by omega) hf1 hnd1 pl1 p1 b1 (treeP (madeL o1))) rfl rfl Ω rfl) ?_
    refine le ?_; intro x60
    refine fixL (congrArg Value.bool (sameP_refl _)) ?_
    refine k_ 6 ?_
    exact rR [] ()
end Go.Proofs.YtppjcjlijmldiaaGreatDoor.X
end
