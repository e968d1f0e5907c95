/- OWN WORK: a part of the proof of a law of the seat YtdbiillompeclaaGreatDoor: what the functions compute. -/
import Derived.Test.YtdbiillompeclaaGreatDoorXMp
import Derived.Test.YtdbiillompeclaaGreatDoorXDef
import Derived.Test.YtdbiillompeclaaGreatDoorXSx2
section
set_option linter.unusedVariables false
set_option linter.unusedSimpArgs false
namespace Go.Sx
open Go
/-! Prims that were swapped make of any tree what these made. -/
abbrev Tf := ByteArray → Option (List ByteArray)
def upd (f : Tf) (k : ByteArray) (v : Option (List ByteArray)) : Tf := fun x => if x = k then v else f x
theorem upd_at (f : Tf) (k : ByteArray) (v : Option (List ByteArray)) : upd f k v k = v := if_pos rfl
theorem upd_ne (f : Tf) {k x : ByteArray} (v : Option (List ByteArray)) (h : x ≠ k) : upd f k v x = f x := if_neg h
/-- 'of f the prim makes g' -/
def Step (f : Tf) (p : Prim) (g : Tf) : Prop :=
  if p.kind = 0 then ∃ A B, f p.name = some (A ++ p.old ++ B) ∧ (A.length : Int) = p.pos ∧ g = upd f p.name (some (A ++ p.new ++ B))
  else if p.kind = 1 then f p.name = none ∧ g = upd f p.name (some [])
  else if p.kind = 2 then f p.name = some [] ∧ g = upd f p.name none
  else ∃ l, f p.name = some l ∧ f p.to = none ∧ g = upd (upd f p.name none) p.to (some l)
theorem step0 {f g : Tf} {p : Prim} (h : p.kind = 0) : Step f p g ↔ ∃ A B, f p.name = some (A ++ p.old ++ B) ∧ (A.length : Int) = p.pos ∧ g = upd f p.name (some (A ++ p.new ++ B)) := by
  unfold Step; rw [if_pos h]
theorem step1 {f g : Tf} {p : Prim} (h : p.kind = 1) : Step f p g ↔ f p.name = none ∧ g = upd f p.name (some []) := by
  unfold Step; rw [if_neg (by omega), if_pos h]
theorem step2 {f g : Tf} {p : Prim} (h : p.kind = 2) : Step f p g ↔ f p.name = some [] ∧ g = upd f p.name none := by
  unfold Step; rw [if_neg (by omega), if_neg (by omega), if_pos h]
theorem step3 {f g : Tf} {p : Prim} (h : p.kind = 3) : Step f p g ↔ ∃ l, f p.name = some l ∧ f p.to = none ∧ g = upd (upd f p.name none) p.to (some l) := by
  unfold Step; rw [if_neg (by omega), if_neg (by omega), if_neg (by omega)]
theorem names3 {p : Prim} (h : p.kind = 3) : p.names = [p.name, p.to] := by unfold Prim.names; rw [if_pos h]
theorem namesN {p : Prim} (h : p.kind ≠ 3) : p.names = [p.name] := by unfold Prim.names; rw [if_neg h]
theorem step_off {f g : Tf} {p : Prim} (hr : p.right = true) (h : Step f p g) {k : ByteArray} (hk : k ∉ p.names) : g k = f k := by
  rcases right_kind hr with h0 | h0 | h0 | h0
  · obtain ⟨A, B, _, _, rfl⟩ := (step0 h0).1 h
    rw [namesN (by omega)] at hk; exact upd_ne _ _ (by simpa using hk)
  · obtain ⟨_, rfl⟩ := (step1 h0).1 h
    rw [namesN (by omega)] at hk; exact upd_ne _ _ (by simpa using hk)
  · obtain ⟨_, rfl⟩ := (step2 h0).1 h
    rw [namesN (by omega)] at hk; exact upd_ne _ _ (by simpa using hk)
  · obtain ⟨l, _, _, rfl⟩ := (step3 h0).1 h
    rw [names3 h0] at hk; simp only [List.mem_cons, List.mem_nil_iff, or_false, not_or] at hk
    rw [upd_ne _ _ hk.2, upd_ne _ _ hk.1]
theorem step_local {f g f' g' : Tf} {p : Prim} (hr : p.right = true) (h : Step f p g) (h1 : ∀ k ∈ p.names, f' k = f k) (h2 : ∀ k ∈ p.names, g' k = g k) (h3 : ∀ k, k ∉ p.names → g' k = f' k) : Step f' p g' := by
  have hn : p.name ∈ p.names := by unfold Prim.names; split <;> simp
  rcases right_kind hr with h0 | h0 | h0 | h0
  · obtain ⟨A, B, e1, e2, e3⟩ := (step0 h0).1 h
    refine (step0 h0).2 ⟨A, B, by rw [h1 _ hn, e1], e2, funext fun k => ?_⟩
    by_cases e : k = p.name
    · subst e; rw [h2 _ hn, upd_at, e3, upd_at]
    · rw [upd_ne _ _ e, h3 _ (by rw [namesN (by omega)]; simpa using e)]
  · obtain ⟨e1, e3⟩ := (step1 h0).1 h
    refine (step1 h0).2 ⟨by rw [h1 _ hn, e1], funext fun k => ?_⟩
    by_cases e : k = p.name
    · subst e; rw [h2 _ hn, upd_at, e3, upd_at]
    · rw [upd_ne _ _ e, h3 _ (by rw [namesN (by omega)]; simpa using e)]
  · obtain ⟨e1, e3⟩ := (step2 h0).1 h
    refine (step2 h0).2 ⟨by rw [h1 _ hn, e1], funext fun k => ?_⟩
    by_cases e : k = p.name
    · subst e; rw [h2 _ hn, upd_at, e3, upd_at]
    · rw [upd_ne _ _ e, h3 _ (by rw [namesN (by omega)]; simpa using e)]
  · obtain ⟨l, e1, e2, e3⟩ := (step3 h0).1 h
    have ht : p.to ∈ p.names := by rw [names3 h0]; simp
    refine (step3 h0).2 ⟨l, by rw [h1 _ hn, e1], by rw [h1 _ ht, e2], funext fun k => ?_⟩
    by_cases e : k = p.to
    · subst e; rw [h2 _ ht, upd_at, e3, upd_at]
    · rw [upd_ne _ _ e]
      by_cases e' : k = p.name
      · subst e'; rw [h2 _ hn, upd_at, e3, upd_ne _ _ e, upd_at]
      · rw [upd_ne _ _ e', h3 _ (by rw [names3 h0]; simp [e, e'])]
open Classical in
theorem step_apart {f g h : Tf} {p q : Prim} (hp : p.right = true) (hq : q.right = true) (h1 : Step f p g) (h2 : Step g q h) (hd : ∀ k ∈ p.names, k ∉ q.names) : ∃ m, Step f q m ∧ Step m p h := by
  refine ⟨fun k => if k ∈ q.names then h k else f k, step_local hq h2 (fun k hk => ?_) (fun k hk => if_pos hk) (fun k hk => if_neg hk), step_local hp h1 (fun k hk => if_neg (hd k hk)) (fun k hk => step_off hq h2 (hd k hk)) fun k hk => ?_⟩
  · exact (step_off hp h1 (fun hk' => hd k hk' hk)).symm
  · by_cases e : k ∈ q.names
    · exact (if_pos e).symm
    · rw [if_neg e, step_off hq h2 e, step_off hp h1 hk]
theorem meets_no {p q : Prim} (h : p.meets q = false) : ∀ k ∈ p.names, k ∉ q.names := fun k h1 h2 => by
  have : p.meets q = true := by
    unfold Prim.meets
    rw [List.any_eq_true]
    exact ⟨k, h1, by rw [List.any_eq_true]; exact ⟨k, h2, by simp⟩⟩
  rw [h] at this; cases this
theorem split_at {A B C D : List ByteArray} {o : List ByteArray} (h : A ++ o ++ B = C ++ D) (hl : A.length + o.length ≤ C.length) : ∃ E, C = A ++ o ++ E ∧ B = E ++ D := by
  rw [List.append_eq_append_iff] at h
  rcases h with ⟨E, h1, h2⟩ | ⟨E, h1, h2⟩
  · exact ⟨E, h1, h2⟩
  · have : E = [] := by
      have := congrArg List.length h1
      simp only [List.length_append] at this
      exact List.eq_nil_of_length_eq_zero (by omega)
    subst this
    exact ⟨[], by simpa using h1.symm, by simpa using h2.symm⟩
theorem step_swap {f g h : Tf} {p q a b : Prim} (h1 : Step f p g) (h2 : Step g q h) (hs : swap p q = (a, b, true)) : ∃ m, Step f a m ∧ Step m b h := by
  obtain ⟨hs, hp, hq, ha, hb⟩ := swap_true hs
  rcases swapped_cases hs with ⟨h0, h3, hn, hc, ea, eb⟩ | ⟨h0, h3, hn, hc, ea, eb⟩ | ⟨h0, h3, hn, ea, eb⟩ | ⟨h0, h3, hn, ea, eb⟩ | ⟨h0, h3, hn, ht, ea, eb⟩ | ⟨h0, h3, hn, ea, eb⟩ | ⟨h0, h3, hn, ht, ea, eb⟩ | ⟨h4, h5, h3, hm, ea, eb⟩
  · rw [ea, eb]; obtain ⟨A, B, e1, e2, rfl⟩ := (step0 h0).1 h1
    obtain ⟨C, D, e3, e4, rfl⟩ := (step0 h3).1 h2
    rw [← hn, upd_at] at e3
    obtain ⟨E, rfl, rfl⟩ := split_at (D := q.old ++ D) (by simpa using (Option.some.inj e3)) (by omega)
    refine ⟨upd f p.name (some (A ++ p.old ++ E ++ q.new ++ D)), (step0 (p := { q with pos := q.pos - ((p.new.length : Int) - p.old.length) }) h3).2 ⟨A ++ p.old ++ E, D, ?_, ?_, ?_⟩, (step0 h0).2 ⟨A, E ++ q.new ++ D, ?_, e2, ?_⟩⟩
    · dsimp only; rw [← hn, e1]; simp
    · dsimp only; simp only [List.length_append] at e4 ⊢; omega
    · dsimp only; rw [← hn]
    · rw [upd_at]; simp
    · rw [← hn]; funext k
      by_cases e : k = p.name
      · subst e; rw [upd_at, upd_at]; simp
      · rw [upd_ne _ _ e, upd_ne _ _ e, upd_ne _ _ e, upd_ne _ _ e]
  · rw [ea, eb]; obtain ⟨A, B, e1, e2, rfl⟩ := (step0 h0).1 h1
    obtain ⟨C, D, e3, e4, rfl⟩ := (step0 h3).1 h2
    rw [← hn, upd_at] at e3
    obtain ⟨E, rfl, rfl⟩ := split_at (A := C) (o := q.old) (B := D) (C := A) (D := p.new ++ B) (by simpa using (Option.some.inj e3).symm) (by omega)
    refine ⟨upd f p.name (some (C ++ q.new ++ (E ++ p.old ++ B))), (step0 h3).2 ⟨C, E ++ p.old ++ B, ?_, e4, ?_⟩, (step0 (p := { p with pos := p.pos + ((q.new.length : Int) - q.old.length) }) h0).2 ⟨C ++ q.new ++ E, B, ?_, ?_, ?_⟩⟩
    · rw [← hn, e1]; simp
    · rw [← hn]
    · dsimp only; rw [upd_at]; simp
    · dsimp only; simp only [List.length_append] at e2 ⊢; omega
    · dsimp only; rw [← hn]; funext k
      by_cases e : k = p.name
      · subst e; rw [upd_at, upd_at]; simp
      · rw [upd_ne _ _ e, upd_ne _ _ e, upd_ne _ _ e, upd_ne _ _ e]
  · rw [ea, eb]; exact step_apart hp hq h1 h2 (fun k => by rw [namesN (by omega), namesN (by omega)]; simp only [List.mem_singleton]; rintro rfl; exact hn)
  · rw [ea, eb]; obtain ⟨A, B, e1, e2, rfl⟩ := (step0 h0).1 h1
    obtain ⟨l, e3, e4, rfl⟩ := (step3 h3).1 h2
    rw [← hn, upd_at] at e3
    obtain rfl := Option.some.inj e3
    have hne : q.to ≠ p.name := fun e => by rw [e, upd_at] at e4; cases e4
    rw [upd_ne _ _ hne] at e4
    refine ⟨upd (upd f q.name none) q.to (some (A ++ p.old ++ B)), (step3 h3).2 ⟨_, by rw [← hn, e1], e4, rfl⟩, (step0 (p := { p with name := q.to }) h0).2 ⟨A, B, ?_, e2, ?_⟩⟩
    · dsimp only; rw [upd_at]
    · dsimp only; rw [← hn]; funext k
      by_cases e : k = q.to
      · subst e; rw [upd_at, upd_at]
      · rw [upd_ne _ _ e, upd_ne _ _ e, upd_ne _ _ e]
        by_cases e' : k = p.name
        · subst e'; rw [upd_at, upd_at]
        · rw [upd_ne _ _ e', upd_ne _ _ e', upd_ne _ _ e']
  · rw [ea, eb]; exact step_apart hp hq h1 h2 (fun k => by rw [namesN (by omega), names3 h3]; simp only [List.mem_singleton, List.mem_cons, List.mem_nil_iff, or_false, not_or]; rintro rfl; exact ⟨hn, ht⟩)
  · rw [ea, eb]; obtain ⟨l, e1, e2, rfl⟩ := (step3 h0).1 h1
    obtain ⟨A, B, e3, e4, rfl⟩ := (step0 h3).1 h2
    rw [← hn, upd_at] at e3
    obtain rfl := Option.some.inj e3
    have hne : p.to ≠ p.name := fun e => by rw [e, e1] at e2; cases e2
    refine ⟨upd f p.name (some (A ++ q.new ++ B)), (step0 (p := { q with name := p.name }) h3).2 ⟨A, B, ?_, e4, rfl⟩, (step3 h0).2 ⟨_, upd_at _ _ _, ?_, ?_⟩⟩
    · dsimp only; rw [e1]
    · rw [upd_ne _ _ hne, e2]
    · rw [← hn]; funext k
      by_cases e : k = p.to
      · subst e; rw [upd_at, upd_at]
      · rw [upd_ne _ _ e, upd_ne _ _ e, upd_ne _ _ e]
        by_cases e' : k = p.name
        · subst e'; rw [upd_at, upd_at]
        · rw [upd_ne _ _ e', upd_ne _ _ e', upd_ne _ _ e']
  · rw [ea, eb]; exact step_apart hp hq h1 h2 (fun k => by rw [names3 h0, namesN (by omega)]; simp only [List.mem_singleton, List.mem_cons, List.mem_nil_iff, or_false]; rintro (rfl | rfl); exact ht; exact hn)
  · rw [ea, eb]; exact step_apart hp hq h1 h2 (meets_no hm)
/-! trees -/
theorem hasT_eq (T : List File) (k : ByteArray) : (hasT T k = true ↔ ∃ l, getT T k = some l) := by
  unfold hasT; rw [Option.isSome_iff_exists]
theorem splT_at {l A B o n : List ByteArray} {z : Int} (h : l = A ++ o ++ B) (hz : (A.length : Int) = z) : standsB l z o = true ∧ splT l z o n = A ++ n ++ B := by
  subst hz
  have h1 : standsB l (A.length : Int) o = true := by
    rw [standsB_nat (by rw [h]; simp only [List.length_append]; omega), h, decide_eq_true_eq, List.append_assoc, List.drop_left, List.take_left]
  refine ⟨h1, ?_⟩
  rw [splT_yes h1, h]
  rw [show (A ++ o ++ B).take A.length = A by rw [List.append_assoc, List.take_left], show (A ++ o ++ B).drop (A.length + o.length) = B by rw [← List.length_append, List.drop_left]]
theorem stands_at {l o : List ByteArray} {z : Int} (h : standsB l z o = true) : ∃ A B, l = A ++ o ++ B ∧ (A.length : Int) = z := by
  obtain ⟨k, rfl, h1, h2⟩ := standsB_yes h
  refine ⟨l.take k, (l.drop k).drop o.length, ?_, by rw [List.length_take]; omega⟩
  conv => rhs; rw [← h2]
  rw [List.append_assoc]
  have : ((l.drop k).take o.length).length = o.length := by rw [h2]
  rw [this, List.take_append_drop, List.take_append_drop]
def Ran (T : List File) (p : Prim) (U : List File) : Prop := rApplyT T p = (U, 0)
theorem ran_right {T U : List File} {p : Prim} (h : Ran T p U) : p.right = true := by
  unfold Ran rApplyT at h
  split at h
  · simp at h
  · rename_i h1; simpa using h1
theorem ran_sor {T U : List File} {p : Prim} (h : Ran T p U) (hS : Sor T) : Sor U := by
  have := rApply_sor hS p; rw [h] at this; exact this
theorem ran_step {T U : List File} {p : Prim} (hS : Sor T) (h : Ran T p U) : Step (getT T) p (getT U) := by
  have hr := ran_right h
  unfold Ran rApplyT at h
  rw [if_neg (by simp [hr])] at h
  rcases right_kind hr with h0 | h0 | h0 | h0
  · rw [if_pos h0] at h
    split at h
    · rename_i hc
      obtain ⟨A, B, e1, e2⟩ := stands_at hc.2
      simp only [Prod.mk.injEq, and_true] at h
      refine (step0 h0).2 ⟨A, B, by rw [← e1]; exact hasT_yes hc.1, e2, funext fun k => ?_⟩
      rw [← h, getT_put hS, (splT_at e1 e2).2]; rfl
    · simp at h
  · rw [if_neg (by omega), if_pos h0] at h
    split at h
    · rename_i hc
      simp only [Prod.mk.injEq, and_true] at h
      exact (step1 h0).2 ⟨hasT_no hc, funext fun k => by rw [← h, getT_put hS]; rfl⟩
    · simp at h
  · rw [if_neg (by omega), if_neg (by omega), if_pos h0] at h
    split at h
    · rename_i hc
      simp only [Prod.mk.injEq, and_true] at h
      exact (step2 h0).2 ⟨by rw [hasT_yes hc.1, List.eq_nil_of_length_eq_zero hc.2], funext fun k => by rw [← h, getT_del hS]; rfl⟩
    · simp at h
  · rw [if_neg (by omega), if_neg (by omega), if_neg (by omega), if_pos h0] at h
    split at h
    · rename_i hc
      simp only [Prod.mk.injEq, and_true] at h
      exact (step3 h0).2 ⟨_, hasT_yes hc.1, hasT_no hc.2, funext fun k => by rw [← h, getT_put (hS.del _), getT_del hS]; rfl⟩
    · simp at h
theorem step_ran {T : List File} {p : Prim} {g : Tf} (hS : Sor T) (hr : p.right = true) (h : Step (getT T) p g) : ∃ U, Ran T p U ∧ getT U = g := by
  unfold Ran rApplyT
  rw [if_neg (by simp [hr])]
  rcases right_kind hr with h0 | h0 | h0 | h0
  · obtain ⟨A, B, e1, e2, rfl⟩ := (step0 h0).1 h
    have hL : getL T p.name = A ++ p.old ++ B := by unfold getL; rw [e1]; rfl
    obtain ⟨s1, s2⟩ := splT_at (n := p.new) hL e2
    rw [if_pos h0, if_pos ⟨(hasT_eq _ _).2 ⟨_, e1⟩, s1⟩]
    exact ⟨_, rfl, funext fun k => by rw [getT_put hS, s2]; rfl⟩
  · obtain ⟨e1, rfl⟩ := (step1 h0).1 h
    rw [if_neg (by omega), if_pos h0, if_pos (by unfold hasT; rw [e1]; rfl)]
    exact ⟨_, rfl, funext fun k => by rw [getT_put hS]; rfl⟩
  · obtain ⟨e1, rfl⟩ := (step2 h0).1 h
    rw [if_neg (by omega), if_neg (by omega), if_pos h0, if_pos ⟨(hasT_eq _ _).2 ⟨_, e1⟩, by unfold getL; rw [e1]; rfl⟩]
    exact ⟨_, rfl, funext fun k => by rw [getT_del hS]; rfl⟩
  · obtain ⟨l, e1, e2, rfl⟩ := (step3 h0).1 h
    rw [if_neg (by omega), if_neg (by omega), if_neg (by omega), if_pos h0, if_pos ⟨(hasT_eq _ _).2 ⟨_, e1⟩, by unfold hasT; rw [e2]; rfl⟩]
    refine ⟨_, rfl, funext fun k => ?_⟩
    rw [getT_put (hS.del _), getT_del hS]
    unfold getL; rw [e1]; rfl
theorem ran_swap {T U V : List File} {p q a b : Prim} (hS : Sor T) (h1 : Ran T p U) (h2 : Ran U q V) (hs : swap p q = (a, b, true)) : ∃ M, Ran T a M ∧ Ran M b V := by
  obtain ⟨_, _, _, ha, hb⟩ := swap_true hs
  obtain ⟨m, s1, s2⟩ := step_swap (ran_step hS h1) (ran_step (ran_sor h1 hS) h2) hs
  obtain ⟨M, r1, rfl⟩ := step_ran hS ha s1
  obtain ⟨W, r2, e⟩ := step_ran (ran_sor r1 hS) hb s2
  obtain rfl := getT_ext (ran_sor r2 (ran_sor r1 hS)) (ran_sor h2 (ran_sor h1 hS)) fun k => congrFun e k
  exact ⟨M, r1, r2⟩
/-! rows -/
def Runs : List File → List Prim → List File → Prop
  | T, [], U => T = U
  | T, p :: l, U => ∃ M, Ran T p M ∧ Runs M l U
theorem runs_app {l m : List Prim} {U : List File} : ∀ {T : List File}, Runs T (l ++ m) U ↔ ∃ M, Runs T l M ∧ Runs M m U := by
  induction l with
  | nil => intro T; exact ⟨fun h => ⟨T, rfl, h⟩, fun ⟨M, e, h⟩ => by cases e; exact h⟩
  | cons p l ih =>
    intro T
    show (∃ M, Ran T p M ∧ Runs M (l ++ m) U) ↔ _
    constructor
    · rintro ⟨M, h1, h2⟩
      obtain ⟨N, h3, h4⟩ := ih.1 h2
      exact ⟨N, ⟨M, h1, h3⟩, h4⟩
    · rintro ⟨N, ⟨M, h1, h3⟩, h4⟩
      exact ⟨M, h1, ih.2 ⟨N, h3, h4⟩⟩
theorem runs_sor {l : List Prim} {U : List File} : ∀ {T : List File}, Runs T l U → Sor T → Sor U := by
  induction l with
  | nil => intro T h hS; cases h; exact hS
  | cons p l ih => rintro T ⟨M, h1, h2⟩ hS; exact ih h2 (ran_sor h1 hS)
theorem runs_past {m : List Prim} {U : List File} : ∀ {T : List File} {p q : Prim} {f : List Prim}, Sor T → Runs T (p :: m) U → past1 p m = some (f, q) → Runs T (f ++ [q]) U := by
  induction m with
  | nil =>
    intro T p q f hS h hp
    obtain ⟨rfl, rfl⟩ := pas_nil.1 hp
    exact h
  | cons x m ih =>
    rintro T p q f hS ⟨M, h1, N, h2, h3⟩ hp
    obtain ⟨a, b, f', e1, e2, rfl⟩ := pas_cons.1 hp
    obtain ⟨K, r1, r2⟩ := ran_swap hS h1 h2 e1
    exact ⟨K, r1, ih (ran_sor r1 hS) ⟨N, r2, h3⟩ e2⟩
theorem runs_swapR : ∀ {l m s f t : List Prim} {T U : List File}, Sor T → Runs T (l.reverse ++ m ++ s) U → swapR l m s = some (f, t) → Runs T (f ++ t) U
  | [], m, s, f, t, T, U, hS, h, e => by
    simp only [swapR, Option.some.injEq, Prod.mk.injEq] at e
    obtain ⟨rfl, rfl⟩ := e
    simpa using h
  | p :: l, m, s, f, t, T, U, hS, h, e => by
    rw [swapR, Option.bind_eq_some_iff] at e
    obtain ⟨⟨n, q⟩, e1, e2⟩ := e
    refine runs_swapR hS ?_ e2
    rw [List.reverse_cons, List.append_assoc, List.append_assoc, runs_app] at h
    obtain ⟨M, r1, r2⟩ := h
    rw [show [p] ++ (m ++ s) = (p :: m) ++ s by rfl, runs_app] at r2
    obtain ⟨N, r3, r4⟩ := r2
    rw [List.append_assoc, runs_app]
    refine ⟨M, r1, ?_⟩
    have := runs_past (runs_sor r1 hS) r3 e1
    rw [show n ++ q :: s = (n ++ [q]) ++ s by simp, runs_app]
    exact ⟨N, this, r4⟩
theorem runs_swapL {l m f s : List Prim} {T U : List File} (hS : Sor T) (h : Runs T (l ++ m) U) (e : swapL l m = some (f, s)) : Runs T (f ++ s) U :=
  runs_swapR (l := l.reverse) hS (by simpa using h) e
theorem ran_back {T U : List File} {p : Prim} (hS : Sor T) (hG : Good T) (h : Ran T p U) : Ran U p.flip T := by
  have h1 : (U, (0 : Int)) = applyT T p := by rw [apply_eq hS hG]; exact h.symm
  have hG1 : Good U := by have := rApply_good hG p; rw [h] at this; exact this
  have := apply_back hS hG h1
  rw [apply_eq (ran_sor h hS) hG1] at this
  exact this
theorem runs_good {l : List Prim} {U : List File} : ∀ {T : List File}, Runs T l U → Good T → Good U := by
  induction l with
  | nil => intro T h hG; cases h; exact hG
  | cons p l ih => rintro T ⟨M, h1, h2⟩ hG; exact ih h2 (by have := rApply_good hG p; rw [h1] at this; exact this)
theorem invL_cons (p : Prim) (l : List Prim) : invL (p :: l) = invL l ++ [p.flip] := by simp [invL]
theorem runs_back {l : List Prim} {U : List File} : ∀ {T : List File}, Sor T → Good T → Runs T l U → Runs U (invL l) T := by
  induction l with
  | nil => intro T _ _ h; cases h; exact rfl
  | cons p l ih =>
    rintro T hS hG ⟨M, h1, h2⟩
    rw [invL_cons, runs_app]
    exact ⟨M, ih (ran_sor h1 hS) (by have := rApply_good hG p; rw [h1] at this; exact this) h2, T, ran_back hS hG h1, rfl⟩
end Go.Sx

end
section
set_option linter.unusedVariables false
namespace Go.Proofs.YtdbiillompeclaaGreatDoor.X
open Go Go.RowKit Go.Proofs Go.Sx
structure Patch where
  id : Int
  note : ByteArray
  deps : List Int
  l : List Prim
  deriving DecidableEq
instance instRpPatch : Rp Patch where
  Lay := (Option Addr × Nat) × (Option Addr × Nat)
  size := 4
  enc p y := [.int .i64 p.id, .string p.note, .slice y.1.1 p.deps.length y.1.2, .slice y.2.1 p.l.length y.2.2]
  len _ _ := rfl
  one _ _ v hv := by
    simp only [List.mem_cons, List.mem_nil_iff, or_false] at hv
    rcases hv with rfl | rfl | rfl | rfl <;> rfl
  asn p y := [slA y.1.1 p.deps, slA y.2.1 p.l]
def Patch.zero : Patch := ⟨0, ⟨#[]⟩, [], []⟩
structure Patch.fit (p : Patch) : Prop where
  nb : p.note.size ≤ 2000000
  dl : p.deps.length ≤ 2000000
  ll : p.l.length ≤ 2000000
  lf : ∀ x ∈ p.l, x.fit
theorem pzero_fit : Patch.zero.fit := ⟨by decide, by decide, by decide, fun x h => by cases h⟩
theorem slA_none {α : Type} [Rp α] (M : Nat → Prop) (w : World) : (slA none ([] : List α)).p M w := by intro j x hj; simp at hj
def depsOk (id : Int) : Int → List Int → Bool
  | _, [] => true
  | last, n :: r => !(decide (n ≤ last) || decide (1000000000 < n) || decide (n = id)) && depsOk id n r
def Patch.right (p : Patch) : Bool := decide (1 ≤ p.id) && decide (p.id ≤ 1000000000) && lineOk p.note && decide (p.deps.length ≤ 8) && depsOk p.id 0 p.deps && decide (1 ≤ p.l.length) && decide (p.l.length ≤ 24) && p.l.all Prim.right
def pmay (p q : Patch) : Bool := p.right && q.right && !decide (p.id = q.id) && !(q.deps.any fun n => decide (n = p.id)) && !(p.deps.any fun n => decide (n = q.id))
def pswap (p q : Patch) : Patch × Patch × Bool := if (pmay p q && (swT p.l q.l).2.2) = true then ({ q with l := (swT p.l q.l).1 }, { p with l := (swT p.l q.l).2.1 }, true) else (Patch.zero, Patch.zero, false)
theorem swT_ok {l m f s : List Prim} (h : (f, s, true) = swT l m) (hl : ∀ x ∈ l, x.fit) (hm : ∀ x ∈ m, x.fit) : f.length = m.length ∧ s.length = l.length ∧ (∀ x ∈ f, x.fit) ∧ ∀ x ∈ s, x.fit := by
  have key : ∀ (j : Nat) (f1 s1 : List Prim), j ≤ l.length → SI l m j f1 s1 → SI l m l.length f s := by
    intro j
    induction hn : l.length - j generalizing j with
    | zero =>
      intro f1 s1 hj hI
      have hjl : j = l.length := by omega
      have := hI.done hjl
      rw [this] at h
      simp only [Prod.mk.injEq, and_true] at h
      obtain ⟨rfl, rfl⟩ := h
      rw [← hjl]; exact hI
    | succ n ih =>
      intro f1 s1 hj hI
      have hk : (l.length - 1 - j) + j + 1 = l.length := by omega
      have hlt : l.length - 1 - j < l.length := by omega
      cases hp : pastT (l[l.length - 1 - j]) f1 with
      | mk f2 r =>
        obtain ⟨q, b⟩ := r
        cases b with
        | true => exact ih (j + 1) (by omega) f2 (q :: s1) (by omega) (hI.step hk hl hp.symm)
        | false =>
          have := hI.stop hk hp.symm
          rw [this] at h
          simp at h
  have hI := key 0 m [] (Nat.zero_le _) (SI.start hm)
  exact ⟨hI.fl, hI.sl, hI.ff, hI.fs⟩
theorem pswap_fit {p q : Patch} (hp : p.fit) (hq : q.fit) : (pswap p q).1.fit ∧ (pswap p q).2.1.fit := by
  unfold pswap
  split
  · rename_i h
    simp only [Bool.and_eq_true] at h
    have hs : ((swT p.l q.l).1, (swT p.l q.l).2.1, true) = swT p.l q.l := by rw [← h.2]
    obtain ⟨h1, h2, h3, h4⟩ := swT_ok hs hp.lf hq.lf
    exact ⟨⟨hq.nb, hq.dl, by dsimp only; rw [h1]; exact hq.ll, h3⟩, ⟨hp.nb, hp.dl, by dsimp only; rw [h2]; exact hp.ll, h4⟩⟩
  · exact ⟨pzero_fit, pzero_fit⟩
def ppastR : List Patch → Patch → List Patch → Option (Patch × List Patch)
  | [], q, rest => some (q, rest)
  | x :: r, q, rest => if (pswap x q).2.2 = true then ppastR r (pswap x q).1 ((pswap x q).2.1 :: rest) else none
def ppast (l : List Patch) (q : Patch) : Patch × List Patch × Bool := match ppastR l.reverse q [] with
  | some r => (r.1, r.2, true)
  | none => (Patch.zero, [], false)
def groupF : List Patch → List Patch → List Patch → List Patch × List Patch
  | [], g, r => (g, r)
  | q :: l, g, r => if (ppast g q).2.2 = true then groupF l (ppast g q).2.1 (r ++ [(ppast g q).1]) else groupF l (g ++ [q]) r
def group : List Patch → List Patch × List Patch
  | [] => ([], [])
  | p :: l => groupF l [p] []
/-- j of l, from behind, are past; q has come ahead of them, and they are rest -/
structure PP (l : List Patch) (q0 : Patch) (j : Nat) (q : Patch) (rest : List Patch) : Prop where
  eq : ppastR l.reverse q0 [] = ppastR (l.reverse.drop j) q rest
  len : rest.length = j
  fq : q.fit
  fr : ∀ x ∈ rest, x.fit
theorem PP.start {l : List Patch} {q : Patch} (h : q.fit) : PP l q 0 q [] := ⟨rfl, rfl, h, by simp⟩
theorem PP.step {l rest : List Patch} {q0 q a b : Patch} {j k : Nat} (h : PP l q0 j q rest) (hk : k + j + 1 = l.length) (hl : ∀ x ∈ l, x.fit) (hp : (a, b, true) = pswap l[k] q) : PP l q0 (j + 1) a (b :: rest) := by
  have hf := pswap_fit (hl _ (List.getElem_mem (show k < l.length by omega))) h.fq
  rw [← hp] at hf
  refine ⟨?_, by simp [h.len], hf.1, fun x hx => ?_⟩
  · rw [h.eq, rev_drop hk, ppastR, ← hp]; rfl
  · rcases List.mem_cons.1 hx with rfl | hx
    · exact hf.2
    · exact h.fr x hx
theorem PP.stop {l rest : List Patch} {q0 q a b : Patch} {j k : Nat} (h : PP l q0 j q rest) (hk : k + j + 1 = l.length) (hp : (a, b, false) = pswap l[k] q) : ppast l q0 = (Patch.zero, [], false) := by
  unfold ppast
  rw [h.eq, rev_drop hk, ppastR, ← hp]; rfl
theorem PP.done {l rest : List Patch} {q0 q : Patch} {j : Nat} (h : PP l q0 j q rest) (hj : j = l.length) : ppast l q0 = (q, rest, true) := by
  unfold ppast
  rw [h.eq, List.drop_eq_nil_of_le (by simp; omega), ppastR]
theorem ppast_ok {l rest : List Patch} {q0 q : Patch} (h : (q, rest, true) = ppast l q0) (hl : ∀ x ∈ l, x.fit) (hq : q0.fit) : rest.length = l.length ∧ q.fit ∧ ∀ x ∈ rest, x.fit := by
  have key : ∀ (j : Nat) (q1 : Patch) (r1 : List Patch), j ≤ l.length → PP l q0 j q1 r1 → PP l q0 l.length q rest := by
    intro j
    induction hn : l.length - j generalizing j with
    | zero =>
      intro f1 s1 hj hI
      have hjl : j = l.length := by omega
      have := hI.done hjl
      rw [this] at h
      simp only [Prod.mk.injEq, and_true] at h
      obtain ⟨rfl, rfl⟩ := h
      rw [← hjl]; exact hI
    | succ n ih =>
      intro f1 s1 hj hI
      have hk : (l.length - 1 - j) + j + 1 = l.length := by omega
      have hlt : l.length - 1 - j < l.length := by omega
      cases hp : pswap (l[l.length - 1 - j]) f1 with
      | mk f2 r =>
        obtain ⟨q, b⟩ := r
        cases b with
        | true => exact ih (j + 1) (by omega) f2 (q :: s1) (by omega) (hI.step hk hl hp.symm)
        | false =>
          have := hI.stop hk hp.symm
          rw [this] at h
          simp at h
  have hI := key 0 q0 [] (Nat.zero_le _) (PP.start hq)
  exact ⟨hI.len, hI.fq, hI.fr⟩
/-- k of l have been looked at -/
structure GI (l : List Patch) (k : Nat) (g r : List Patch) : Prop where
  eq : group l = if k = 0 then group l else groupF (l.drop k) g r
  zero : k = 0 → g = [] ∧ r = []
  len : g.length + r.length = k
  fg : ∀ x ∈ g, x.fit
  fr : ∀ x ∈ r, x.fit
theorem GI.start (l : List Patch) : GI l 0 [] [] := ⟨by simp, fun _ => ⟨rfl, rfl⟩, rfl, by simp, by simp⟩
theorem GI.first {l : List Patch} (h0 : 0 < l.length) (hl : ∀ x ∈ l, x.fit) : GI l 1 [l[0]] [] := by
  refine ⟨?_, fun h => by omega, rfl, fun x hx => ?_, by simp⟩
  · match l, h0 with
    | p :: l, _ => simp [group]
  · simp at hx; subst hx; exact hl _ (List.getElem_mem _)
theorem GI.yes {l g r rest : List Patch} {q : Patch} {k : Nat} (h : GI l k g r) (hk : k < l.length) (h0 : k ≠ 0) (hl : ∀ x ∈ l, x.fit) (hp : (q, rest, true) = ppast g l[k]) : GI l (k + 1) rest (r ++ [q]) := by
  obtain ⟨h1, h2, h3⟩ := ppast_ok hp h.fg (hl _ (List.getElem_mem hk))
  refine ⟨?_, fun h => by omega, by simp [h1]; have := h.len; omega, h3, fun x hx => ?_⟩
  · have := h.eq
    rw [if_neg h0, List.drop_eq_getElem_cons hk, groupF, ← hp] at this
    simpa using this
  · rcases List.mem_append.1 hx with hx | hx
    · exact h.fr x hx
    · simp at hx; subst hx; exact h2
theorem GI.no {l g r rest : List Patch} {q : Patch} {k : Nat} (h : GI l k g r) (hk : k < l.length) (hl : ∀ x ∈ l, x.fit) (hp : k = 0 ∨ (q, rest, false) = ppast g l[k]) : GI l (k + 1) (g ++ [l[k]]) r := by
  by_cases h0 : k = 0
  · subst h0
    obtain ⟨rfl, rfl⟩ := h.zero rfl
    exact GI.first hk hl
  · have hp := hp.resolve_left h0
    refine ⟨?_, fun h => by omega, by simp; have := h.len; omega, fun x hx => ?_, h.fr⟩
    · have := h.eq
      rw [if_neg h0, List.drop_eq_getElem_cons hk, groupF, ← hp] at this
      simpa using this
    · rcases List.mem_append.1 hx with hx | hx
      · exact h.fg x hx
      · simp at hx; subst hx; exact hl _ (List.getElem_mem _)
theorem GI.done {l g r : List Patch} {k : Nat} (h : GI l k g r) (hk : ¬ k < l.length) : group l = (g, r) := by
  by_cases h0 : k = 0
  · subst h0
    have : l = [] := List.eq_nil_of_length_eq_zero (by omega)
    obtain ⟨rfl, rfl⟩ := h.zero rfl
    rw [this]; rfl
  · have := h.eq
    rw [if_neg h0, List.drop_eq_nil_of_le (by omega), groupF] at this
    exact this
end Go.Proofs.YtdbiillompeclaaGreatDoor.X

end
section
set_option linter.unusedVariables false
namespace Go.Proofs.YtdbiillompeclaaGreatDoor.X
open Go Go.RowKit Go.Proofs Go.Sx
/-! Swapped again, both rows are as they were: a grid read by columns. -/
theorem grid_nil {l f s : List Prim} (h : Grid l [] f s) : f = [] ∧ s = l := by
  generalize hm : ([] : List Prim) = m at h
  induction h with
  | nil => subst hm; exact ⟨rfl, rfl⟩
  | @row l p m n q f s hp hg ih =>
    subst hm
    obtain ⟨rfl, rfl⟩ := pas_nil.1 hp
    obtain ⟨rfl, rfl⟩ := ih rfl
    exact ⟨rfl, rfl⟩
theorem grid_col {l M F s : List Prim} (h : Grid l M F s) : ∀ {m : List Prim} {q : Prim}, M = m ++ [q] → ∃ f x t, F = f ++ [x] ∧ Grid l m f t ∧ Pas x s t q := by
  induction h with
  | @nil M =>
    intro m q hM
    subst hM
    exact ⟨m, q, [], rfl, .nil, pas_nil.2 ⟨rfl, rfl⟩⟩
  | @row l p M N z F s hp hg ih =>
    intro m q hM
    subst hM
    obtain ⟨n, N2, b, h1, h2, rfl⟩ := pas_app.1 hp
    obtain ⟨q', b', f', h3, h4, rfl⟩ := pas_cons.1 h2
    obtain ⟨rfl, rfl⟩ := pas_nil.1 h4
    obtain ⟨f, x, t, rfl, h5, h6⟩ := ih rfl
    exact ⟨f, x, t ++ [b], rfl, .row h1 h5, pas_app.2 ⟨t, [b], q', h6, pas_cons.2 ⟨b, q, [], swap_back h3, pas_nil.2 ⟨rfl, rfl⟩, rfl⟩, rfl⟩⟩
theorem grid_turn : ∀ (n : Nat) {l m f s : List Prim}, m.length = n → Grid l m f s → Grid f s l m
  | 0, l, m, f, s, hn, h => by
    have : m = [] := List.eq_nil_of_length_eq_zero hn
    subst this
    obtain ⟨rfl, rfl⟩ := grid_nil h
    exact .nil
  | n + 1, l, M, F, s, hn, h => by
    obtain ⟨m, q, rfl⟩ : ∃ m q, M = m ++ [q] := ⟨M.dropLast, M.getLast (by intro e; rw [e] at hn; simp at hn), (List.dropLast_concat_getLast _).symm⟩
    obtain ⟨f, x, t, rfl, h1, h2⟩ := grid_col h rfl
    exact .row h2 (grid_turn n (by simpa using hn) h1)
theorem swapR_grid : ∀ (r : List Prim) {m f S second : List Prim}, swapR r m second = some (f, S) ↔ ∃ s, Grid r.reverse m f s ∧ S = s ++ second
  | [], m, f, S, second => by
    simp only [swapR, Option.some.injEq, Prod.mk.injEq, List.reverse_nil]
    constructor
    · rintro ⟨rfl, rfl⟩; exact ⟨[], .nil, rfl⟩
    · rintro ⟨s, h, rfl⟩
      generalize hl : ([] : List Prim) = l at h
      cases h with
      | nil => exact ⟨rfl, rfl⟩
      | @row l' p m n q f s hp hg => simp at hl
  | p :: r, m, f, S, second => by
    rw [swapR, Option.bind_eq_some_iff]
    constructor
    · rintro ⟨⟨n, q⟩, h1, h2⟩
      obtain ⟨s, h3, rfl⟩ := (swapR_grid r).1 h2
      refine ⟨s ++ [q], ?_, by simp⟩
      rw [List.reverse_cons]
      exact .row h1 h3
    · rintro ⟨s, h, rfl⟩
      rw [List.reverse_cons] at h
      generalize hl : r.reverse ++ [p] = l at h
      cases h with
      | nil => simp at hl
      | @row l' p' m n q f s' hp hg =>
        obtain ⟨rfl, h5⟩ := List.append_inj' hl rfl
        obtain rfl : p = p' := by simpa using h5
        exact ⟨(n, q), hp, (swapR_grid r).2 ⟨s', hg, by simp⟩⟩
theorem swapL_grid {l m f s : List Prim} : swapL l m = some (f, s) ↔ Grid l m f s := by
  unfold swapL
  rw [swapR_grid]
  simp only [List.reverse_reverse, List.append_nil]
  constructor
  · rintro ⟨s', h, rfl⟩; exact h
  · intro h; exact ⟨s, h, rfl⟩
theorem swT_true {l m f s : List Prim} : (f, s, true) = swT l m ↔ swapL l m = some (f, s) := by
  unfold swT
  cases h : swapL l m with
  | none => simp
  | some r => obtain ⟨r1, r2⟩ := r; simp [eq_comm]
theorem swT_back {l m f s : List Prim} (h : (f, s, true) = swT l m) : (l, m, true) = swT f s :=
  swT_true.2 (swapL_grid.2 (grid_turn _ rfl (swapL_grid.1 (swT_true.1 h))))
/-- who has passed, or been passed, is right -/
theorem pas_right : ∀ {m : List Prim} {p q : Prim} {f : List Prim}, Pas p m f q → p.right = true → q.right = true ∧ f.all Prim.right = true
  | [], p, q, f, h, hp => by
    obtain ⟨rfl, rfl⟩ := pas_nil.1 h
    exact ⟨hp, rfl⟩
  | x :: m, p, q, f, h, hp => by
    obtain ⟨a, b, f', h1, h2, rfl⟩ := pas_cons.1 h
    obtain ⟨_, _, _, h3, h4⟩ := swap_true h1
    obtain ⟨h5, h6⟩ := pas_right h2 h4
    exact ⟨h5, by simp [h3, h6]⟩
theorem grid_right {l m f s : List Prim} (h : Grid l m f s) : l.all Prim.right = true → m.all Prim.right = true → f.all Prim.right = true ∧ s.all Prim.right = true := by
  induction h with
  | nil => exact fun _ h => ⟨h, rfl⟩
  | @row l p m n q f s hp hg ih =>
    intro hl hm
    rw [List.all_append, Bool.and_eq_true] at hl
    have hp1 : p.right = true := by simpa using hl.2
    obtain ⟨h1, h2⟩ := pas_right hp hp1
    obtain ⟨h3, h4⟩ := ih hl.1 h2
    exact ⟨h3, by rw [List.all_append, h4]; simp [h1]⟩
theorem grid_len {l m f s : List Prim} (h : Grid l m f s) : f.length = m.length ∧ s.length = l.length := by
  induction h with
  | nil => exact ⟨rfl, rfl⟩
  | @row l p m n q f s hp hg ih =>
    have hpl : ∀ {m : List Prim} {p q : Prim} {f : List Prim}, Pas p m f q → f.length = m.length := by
      intro m
      induction m with
      | nil => intro p q f h; obtain ⟨rfl, _⟩ := pas_nil.1 h; rfl
      | cons x m ih2 =>
        intro p q f h
        obtain ⟨a, b, f', h1, h2, rfl⟩ := pas_cons.1 h
        simp [ih2 h2]
    exact ⟨ih.1.trans (hpl hp), by simp [ih.2]⟩
theorem right_parts {p : Patch} (h : p.right = true) : (1 ≤ p.l.length ∧ p.l.length ≤ 24) ∧ p.l.all Prim.right = true := by
  unfold Patch.right at h
  simp only [Bool.and_eq_true, decide_eq_true_eq] at h
  exact ⟨⟨h.1.1.2, h.1.2⟩, h.2⟩
theorem right_with {p : Patch} {l : List Prim} (h : p.right = true) (hl : l.length = p.l.length) (hr : l.all Prim.right = true) : ({ p with l := l } : Patch).right = true := by
  unfold Patch.right at h ⊢
  simp only [Bool.and_eq_true, decide_eq_true_eq] at h ⊢
  refine ⟨⟨⟨h.1.1.1, ?_⟩, ?_⟩, hr⟩
  · rw [hl]; exact h.1.1.2
  · rw [hl]; exact h.1.2
theorem pswap_true {p q a b : Patch} (h : (a, b, true) = pswap p q) : ∃ f s, pmay p q = true ∧ (f, s, true) = swT p.l q.l ∧ a = { q with l := f } ∧ b = { p with l := s } := by
  unfold pswap at h
  split at h
  · rename_i hc
    simp only [Bool.and_eq_true] at hc
    simp only [Prod.mk.injEq, and_true] at h
    exact ⟨_, _, hc.1, by rw [← hc.2], h.1, h.2⟩
  · simp at h
theorem pswap_back {p q a b : Patch} (h : (a, b, true) = pswap p q) : (p, q, true) = pswap a b := by
  obtain ⟨f, s, hm, hs, rfl, rfl⟩ := pswap_true h
  have hg := swapL_grid.1 (swT_true.1 hs)
  have hl := grid_len hg
  unfold pmay at hm
  simp only [Bool.and_eq_true, Bool.not_eq_true'] at hm
  obtain ⟨⟨⟨⟨e1, e2⟩, e3⟩, e4⟩, e5⟩ := hm
  have hr := grid_right hg (right_parts e1).2 (right_parts e2).2
  have hb := swT_back hs
  unfold pswap
  have hmay : pmay { q with l := f } { p with l := s } = true := by
    unfold pmay
    rw [right_with e2 hl.1 hr.1, right_with e1 hl.2 hr.2]
    dsimp only
    rw [e4, e5, show decide (q.id = p.id) = false by rw [← e3]; exact decide_eq_decide.2 eq_comm]
    rfl
  rw [hmay]
  dsimp only
  rw [← hb]
  rfl
end Go.Proofs.YtdbiillompeclaaGreatDoor.X

end
section
set_option linter.unusedVariables false
set_option linter.unusedSimpArgs false
namespace Go.Proofs.YtdbiillompeclaaGreatDoor.X
open Go Go.RowKit Go.Proofs Go.Sx
/-! Rows of prims and trees: what Apply of a row makes, or that it does not fit. -/
def runE : List File → List Prim → List File × Int
  | T, [] => (T, 0)
  | T, p :: l => if (rApplyT T p).2 = 0 then runE (rApplyT T p).1 l else rApplyT T p
def rowT (T : List File) (l : List Prim) : List File × Int := if (runE T l).2 = 0 then runE T l else (T, (runE T l).2)
theorem runs_runE {l : List Prim} {U : List File} : ∀ {T : List File}, Runs T l U ↔ runE T l = (U, 0) := by
  induction l with
  | nil => intro T; show T = U ↔ (T, (0 : Int)) = (U, 0); simp
  | cons p l ih =>
    intro T
    show (∃ M, Ran T p M ∧ Runs M l U) ↔ _
    rw [runE]
    constructor
    · rintro ⟨M, h1, h2⟩
      unfold Ran at h1
      rw [h1, if_pos rfl]
      exact ih.1 h2
    · intro h
      split at h
      · rename_i h1
        exact ⟨(rApplyT T p).1, by unfold Ran; rw [← h1], ih.2 h⟩
      · rename_i h1
        rw [h] at h1; exact absurd rfl h1
theorem rowT_ok {T U : List File} {l : List Prim} (h : Runs T l U) : rowT T l = (U, 0) := by
  unfold rowT; rw [runs_runE.1 h, if_pos rfl]
theorem rowT_runs {T U : List File} {l : List Prim} (h : rowT T l = (U, 0)) : Runs T l U := by
  unfold rowT at h
  split at h
  · exact runs_runE.2 h
  · rename_i h1
    simp only [Prod.mk.injEq] at h
    exact absurd h.2 h1
theorem runE_app {l m : List Prim} {M : List File} : ∀ {T : List File}, Runs T l M → runE T (l ++ m) = runE M m := by
  induction l with
  | nil => intro T h; cases h; rfl
  | cons p l ih =>
    rintro T ⟨N, h1, h2⟩
    rw [List.cons_append, runE]
    unfold Ran at h1
    rw [h1, if_pos rfl]
    exact ih h2
theorem rowT_err {T M M' : List File} {l : List Prim} {k : Nat} {e : Int} (h : Runs T (l.take k) M) (hk : k < l.length) (he : (M', e) = rApplyT M l[k]) (hne : ¬ e = 0) : rowT T l = (T, e) := by
  have h1 : runE T l = (M', e) := by
    conv => lhs; rw [← List.take_append_drop k l]
    rw [runE_app h, List.drop_eq_getElem_cons hk, runE, ← he, if_neg hne]
  unfold rowT; rw [h1, if_neg hne]
theorem rowT_no {T U : List File} {l : List Prim} {e : Int} (h : (U, e) = rowT T l) (he : ¬ e = 0) : U = T := by
  unfold rowT at h
  split at h
  · rename_i h1
    have : e = 0 := by have := congrArg Prod.snd h; dsimp only at this; rw [this]; exact h1
    exact absurd this he
  · exact congrArg Prod.fst h
theorem runs_take {T M M' : List File} {l : List Prim} {k : Nat} (h : Runs T (l.take k) M) (hk : k < l.length) (he : (M', (0 : Int)) = rApplyT M l[k]) : Runs T (l.take (k + 1)) M' := by
  rw [List.take_succ_eq_append_getElem hk, runs_app]
  exact ⟨M, h, M', he.symm, rfl⟩
theorem runs_all {T M : List File} {l : List Prim} {k : Nat} (h : Runs T (l.take k) M) (hk : l.length ≤ k) : Runs T l M := by
  rwa [List.take_of_length_le hk] at h
theorem runs_applied {l : List Prim} {U : List File} : ∀ {T : List File}, Runs T l U → U = appliedT T l := by
  induction l with
  | nil => intro T h; exact h.symm
  | cons p l ih =>
    rintro T ⟨M, h1, h2⟩
    rw [ih h2]
    unfold Ran at h1
    show _ = appliedT (rApplyT T p).1 l
    rw [h1]
theorem runs_inv {T U : List File} {l : List Prim} {m n : Nat} (h : Runs T l U) (hi : AppInv m n T) : AppInv (m + news l) (n + l.length) U := by
  rw [runs_applied h]; exact hi.applied l
theorem news_inv (l : List Prim) : news (invL l) ≤ many l := by
  induction l with
  | nil => simp [invL, news]
  | cons p l ih =>
    rw [invL_cons]
    have h1 : news (invL l ++ [p.flip]) = news (invL l) + p.flip.new.length := by unfold news; simp
    have h2 := flip_new p
    have h3 : p.old.length + p.new.length ≤ p.many := by unfold Prim.many; omega
    have h4 : many (p :: l) = 1 + p.many + many l := by unfold many; simp; omega
    omega
theorem take_many (l : List Prim) (k : Nat) : many (l.take k) ≤ many l := by
  have h : many l = many (l.take k) + many (l.drop k) := by
    unfold many
    have h1 : (l.map Prim.many).sum = ((l.take k).map Prim.many).sum + ((l.drop k).map Prim.many).sum := by
      rw [← List.sum_append, ← List.map_append, List.take_append_drop]
    have h2 : l.length = (l.take k).length + (l.drop k).length := by rw [← List.length_append, List.take_append_drop]
    omega
  omega
/-- j prims of what undoes k of l are done: the tree is N; the rest makes T of it -/
structure Undo (T : List File) (l : List Prim) (k j : Nat) (M N : List File) : Prop where
  done : Runs M ((invL (l.take k)).take j) N
  left : Runs N ((invL (l.take k)).drop j) T
theorem Undo.start {T M : List File} {l : List Prim} {k : Nat} (hS : Sor T) (hG : Go.Sx.Good T) (h : Runs T (l.take k) M) : Undo T l k 0 M M := ⟨rfl, runs_back hS hG h⟩
theorem Undo.step {T M N : List File} {l : List Prim} {k j : Nat} (h : Undo T l k j M N) (hj : j < (invL (l.take k)).length) : Undo T l k (j + 1) M (rApplyT N (invL (l.take k))[j]).1 := by
  have h2 := h.left
  rw [List.drop_eq_getElem_cons hj] at h2
  obtain ⟨K, h3, h4⟩ := h2
  have e : (rApplyT N (invL (l.take k))[j]).1 = K := by unfold Ran at h3; rw [h3]
  rw [e]
  refine ⟨?_, h4⟩
  rw [List.take_succ_eq_append_getElem hj, runs_app]
  exact ⟨N, h.done, K, h3, rfl⟩
theorem Undo.stop {T M N : List File} {l : List Prim} {k j : Nat} (h : Undo T l k j M N) (hj : (invL (l.take k)).length ≤ j) : N = T := by
  have := h.left
  rw [List.drop_eq_nil_of_le hj] at this
  exact this
/-- rows that were swapped, back, and undone -/
theorem swT_false {l m f s : List Prim} (h : (f, s, false) = swT l m) : swapL l m = none ∧ f = [] ∧ s = [] := by
  unfold swT at h
  cases hh : swapL l m with
  | none => rw [hh] at h; simp at h; exact ⟨rfl, h.1, h.2⟩
  | some r => rw [hh] at h; simp at h
theorem swT_some {l m f s : List Prim} (h : swapL l m = some (f, s)) : swT l m = (f, s, true) := by unfold swT; rw [h]
theorem runs_swT {l m f s : List Prim} {T U : List File} (hS : Sor T) (h : Runs T (l ++ m) U) (e : (f, s, true) = swT l m) : Runs T (f ++ s) U := runs_swapL hS h (swT_true.1 e)
/-- what passes a row, undone: the row undone, and what undoes it -/
theorem pas_inv : ∀ {m : List Prim} {p q : Prim} {f : List Prim}, Pas p m f q → Grid (invL m) [p.flip] [q.flip] (invL f)
  | [], p, q, f, h => by
    obtain ⟨rfl, rfl⟩ := pas_nil.1 h
    exact Grid.nil
  | x :: m, p, q, f, h => by
    obtain ⟨a, b, f', h1, h2, rfl⟩ := pas_cons.1 h
    rw [invL_cons, invL_cons]
    refine Grid.row (n := [b.flip]) (q := a.flip) ?_ (pas_inv h2)
    exact pas_cons.2 ⟨b.flip, a.flip, [], swap_inv h1, pas_nil.2 ⟨rfl, rfl⟩, rfl⟩
theorem grid_join : ∀ {l : List Prim} {m1 m2 f1 f2 s t : List Prim}, Grid l m1 f1 s → Grid s m2 f2 t → Grid l (m1 ++ m2) (f1 ++ f2) t := by
  intro l m1 m2 f1 f2 s t h1
  induction h1 generalizing m2 f2 t with
  | nil =>
    intro h2
    have : ∀ {L m f s : List Prim}, Grid L m f s → L = [] → f = m ∧ s = [] := by
      intro L m f s h
      cases h with
      | nil => intro _; exact ⟨rfl, rfl⟩
      | row a b => intro e; simp at e
    obtain ⟨rfl, rfl⟩ := this h2 rfl
    exact Grid.nil
  | @row l p m n q f s hp hg ih =>
    intro h2
    generalize hL : s ++ [q] = L at h2
    cases h2 with
    | nil => simp at hL
    | @row l' p' m' n' q' f' s' hp' hg' =>
      obtain ⟨rfl, e⟩ := List.append_inj' hL rfl
      obtain rfl : q = p' := by simpa using e
      exact Grid.row (pas_app.2 ⟨_, _, _, hp, hp', rfl⟩) (ih hg')
theorem invL_app (l m : List Prim) : invL (l ++ m) = invL m ++ invL l := by simp [invL]
theorem grid_nilr : ∀ (l : List Prim), Grid l [] [] l := by
  intro l
  have : ∀ (r : List Prim), Grid r.reverse [] [] r.reverse := by
    intro r
    induction r with
    | nil => exact Grid.nil
    | cons x r ih => rw [List.reverse_cons]; exact Grid.row (pas_nil.2 ⟨rfl, rfl⟩) ih
  simpa using this l.reverse
theorem grid_inv {l m f s : List Prim} (h : Grid l m f s) : Grid (invL m) (invL l) (invL s) (invL f) := by
  induction h with
  | nil => exact grid_nilr _
  | @row l p m n q f s hp hg ih =>
    rw [invL_app, invL_app]
    exact grid_join (pas_inv hp) ih
theorem invL_invL (l : List Prim) : invL (invL l) = l := by
  unfold invL
  rw [← List.map_reverse, List.reverse_reverse, List.map_map]
  conv => rhs; rw [← List.map_id l]
  exact List.map_congr_left fun p _ => flip_flip p
/-- one can be brought behind the other just if the other can be behind the one -/
theorem reb_turn {l m r : List Prim} (h : reb l m = some r) : ∃ s, swapL (invL l) m = some (r, s) ∧ reb m l = some (invL s) := by
  unfold reb at h ⊢
  rw [Option.map_eq_some_iff] at h
  obtain ⟨⟨f, s⟩, h1, rfl⟩ := h
  refine ⟨s, h1, ?_⟩
  have := swapL_grid.2 (grid_inv (swapL_grid.1 h1))
  rw [invL_invL] at this
  rw [this]; rfl
theorem rebT_turn {l m r r' : List Prim} {b b' : Bool} (h : (r, b) = rebT l m) (h' : (r', b') = rebT m l) : b = b' := by
  have key : ∀ {l m r r' : List Prim}, (r, true) = rebT l m → (r', false) = rebT m l → False := by
    intro l m r r' h h'
    obtain ⟨s, _, h2⟩ := reb_turn (rebT_true h)
    rw [(rebT_false h').1] at h2; cases h2
  cases b <;> cases b'
  · rfl
  · exact (key h' h).elim
  · exact (key h h').elim
  · rfl
theorem rebT_merge {l m a b : List Prim} {T U V : List File} (hS : Sor T) (hG : Go.Sx.Good T) (h : (a, true) = rebT l m) (h' : (b, true) = rebT m l) (hl : Runs T l U) (hm : Runs T m V) : ∃ X, Runs U a X ∧ Runs V b X := by
  obtain ⟨s, h1, h2⟩ := reb_turn (rebT_true h)
  obtain rfl : b = invL s := by have := rebT_true h'; rw [h2] at this; exact (Option.some.inj this).symm
  have hb := runs_back hS hG hl
  have h3 := runs_swapL (runs_sor hl hS) (runs_app.2 ⟨T, hb, hm⟩) h1
  obtain ⟨X, h4, h5⟩ := runs_app.1 h3
  exact ⟨X, h4, runs_back (runs_sor h4 (runs_sor hl hS)) (runs_good h4 (runs_good hl hG)) h5⟩
/-! what is brought ahead -/
def splK (W : Nat → Bool) (l : List Prim) : Nat → List Prim × List Prim
  | 0 => ([], [])
  | k + 1 => match l[k]? with
    | none => splK W l k
    | some p => if W k && (swT (splK W l k).2 [p]).2.2 then ((splK W l k).1 ++ (swT (splK W l k).2 [p]).1, (swT (splK W l k).2 [p]).2.1) else ((splK W l k).1, (splK W l k).2 ++ [p])
theorem splK_yes {W : Nat → Bool} {l f r a b : List Prim} {k : Nat} (h : (f, r) = splK W l k) (hk : k < l.length) (hw : W k = true) (hs : (a, b, true) = swT r [l[k]]) : (f ++ a, b) = splK W l (k + 1) := by
  rw [splK, List.getElem?_eq_getElem hk]
  dsimp only
  rw [← h]
  dsimp only
  rw [← hs, hw]
  rfl
theorem splK_no {W : Nat → Bool} {l f r a b : List Prim} {k : Nat} {z : Bool} (h : (f, r) = splK W l k) (hk : k < l.length) (hs : (a, b, z) = swT r [l[k]]) (hz : (W k && z) = false) : (f, r ++ [l[k]]) = splK W l (k + 1) := by
  rw [splK, List.getElem?_eq_getElem hk]
  dsimp only
  rw [← h]
  dsimp only
  rw [← hs]
  dsimp only
  rw [hz]
  rfl
theorem splK_no' {W : Nat → Bool} {l f r : List Prim} {k : Nat} (h : (f, r) = splK W l k) (hk : k < l.length) (hw : W k = false) : (f, r ++ [l[k]]) = splK W l (k + 1) := by
  rw [splK, List.getElem?_eq_getElem hk]
  dsimp only
  rw [← h, hw]
  rfl
theorem swT_len {l m f s : List Prim} (h : (f, s, true) = swT l m) : f.length = m.length ∧ s.length = l.length := grid_len (swapL_grid.1 (swT_true.1 h))
theorem swT_fit {l m f s : List Prim} {b : Bool} (h : (f, s, b) = swT l m) (hl : ∀ x ∈ l, x.fit) (hm : ∀ x ∈ m, x.fit) : (∀ x ∈ f, x.fit) ∧ ∀ x ∈ s, x.fit := by
  cases b with
  | false => obtain ⟨_, rfl, rfl⟩ := swT_false h; simp
  | true => exact (swT_ok h hl hm).2.2
theorem splK_len (W : Nat → Bool) (l : List Prim) : ∀ (k : Nat), k ≤ l.length → (splK W l k).1.length + (splK W l k).2.length = k := by
  intro k
  induction k with
  | zero => intro _; rfl
  | succ k ih =>
    intro hk
    have ih := ih (by omega)
    rw [splK, List.getElem?_eq_getElem (by omega)]
    dsimp only
    split
    · rename_i h1
      simp only [Bool.and_eq_true] at h1
      have := swT_len (l := (splK W l k).2) (m := [l[k]]) (f := (swT (splK W l k).2 [l[k]]).1) (s := (swT (splK W l k).2 [l[k]]).2.1) (by rw [← h1.2])
      dsimp only
      rw [List.length_append, this.1, this.2]
      simp only [List.length_cons, List.length_nil]; omega
    · dsimp only; rw [List.length_append]; simp only [List.length_cons, List.length_nil]; omega
theorem splK_runs (W : Nat → Bool) (l : List Prim) {T : List File} (hS : Sor T) : ∀ (k : Nat) {U : List File}, k ≤ l.length → Runs T (l.take k) U → Runs T ((splK W l k).1 ++ (splK W l k).2) U := by
  intro k
  induction k with
  | zero => intro U _ h; exact h
  | succ k ih =>
    intro U hk h
    rw [List.take_succ_eq_append_getElem (by omega), runs_app] at h
    obtain ⟨M, h1, h2⟩ := h
    have ih := ih (by omega) h1
    rw [runs_app] at ih
    obtain ⟨N, h3, h4⟩ := ih
    have h5 : Runs N ((splK W l k).2 ++ [l[k]]) U := runs_app.2 ⟨M, h4, h2⟩
    rw [splK, List.getElem?_eq_getElem (by omega)]
    dsimp only
    split
    · rename_i hc
      simp only [Bool.and_eq_true] at hc
      have h6 := runs_swT (runs_sor h3 hS) h5 (f := (swT (splK W l k).2 [l[k]]).1) (s := (swT (splK W l k).2 [l[k]]).2.1) (by rw [← hc.2])
      dsimp only
      rw [List.append_assoc, runs_app]
      exact ⟨N, h3, h6⟩
    · dsimp only
      rw [runs_app]
      exact ⟨N, h3, h5⟩
end Go.Proofs.YtdbiillompeclaaGreatDoor.X

end
section
set_option linter.unusedVariables false
set_option linter.unusedSimpArgs false
namespace Go.Sx
open Go Go.RowKit
section
variable {ro : Option Nat} {P : Program} {M0 F0 : Nat → Prop} {w0 : World} {n : Nm} {σ : List (Nat × Value)} {Ξ : List Xsn} {Γ : List Asn}
theorem nilC {α : Type} [Rp α] {a : Act} {w : World} (h : St M0 F0 w0 n σ Ξ Γ a w) : St M0 F0 w0 n σ Ξ (slA (α := α) none [] :: nilA (none, 0) :: capA 0 0 :: Γ) a w := by
  obtain ⟨hs, Fs, hh⟩ := nilSl (α := α) h
  refine ⟨hs, Fs, { hh with ga := fun p hp => ?_ }⟩
  rcases List.mem_cons.1 hp with rfl | hp
  · exact hh.ga _ (by simp)
  · rcases List.mem_cons.1 hp with rfl | hp
    · exact fun _ => rfl
    · rcases List.mem_cons.1 hp with rfl | hp
      · exact Nat.le_refl 0
      · exact hh.ga p (by simp [hp])
end
/-- what a call hands back as a row of one's own may be taken as data -/
theorem con_fz {P : Program} {f : FuncId} {args : List Value} {Ξi : List Xsn} {Γi : List Asn} {X : Type} {rv : X → Value} {α : Type} [Rp α] {e : TypeId} {A : X → Option Addr} {c : X → Nat} {l : X → List α} {Γo : X → List Asn}
    (h : Con P f args Ξi Γi X rv (fun x => [row e (A x) (c x) (l x)]) Γo) : Con P f args Ξi Γi X rv (fun _ => []) (fun x => slA (A x) (l x) :: nilA (A x, c x) :: capA (c x) (l x).length :: Γo x) := by
  intro M0 Fs w hh
  refine (h M0 Fs w hh).mono ?_
  rintro en w' ⟨x, Fs', rfl, hout⟩
  have hsl : Slots ⟨0, []⟩ [] { tmps := #[], defers := [] } := ⟨rfl, rfl, fun t v h => by cases h⟩
  obtain ⟨_, Fs'', h1⟩ := freezeN (i := 0) rfl (⟨hsl, Fs', hout⟩ : St M0 (own Fs) w ⟨0, []⟩ [] [row e (A x) (c x) (l x)] (Γo x) { tmps := #[], defers := [] } w')
  exact ⟨x, Fs'', rfl, h1⟩
/-- a call reads a row of one's own: where it says so, the row is one's own still, and nothing is handed back; else it is given up -/
theorem borrow2 {P : Program} {f : FuncId} {args : List Value} {α : Type} [Rp α] {e : TypeId} {A : Option Addr} {c : Nat} {l : List α} {Γi : List Asn} {X : Type} {rv : X → Value} {Ξo : X → List Xsn} {Γo : X → List Asn} (keep : X → Bool)
    (h : Con P f args [] (slA A l :: Γi) X rv Ξo Γo) :
    Con P f args [row e A c l] Γi X rv (fun x => bif keep x then [row e A c l] else Ξo x) (fun x => bif keep x then [] else Γo x) := by
  intro M0 Fs w hh
  obtain ⟨F, rfl, hrow⟩ := hh.one_of
  have ho : ∀ b, own [F] b ↔ F b := fun b => by simp [own]
  have hsl : Slots ⟨0, []⟩ [] { tmps := #[], defers := [] } := ⟨rfl, rfl, fun t v h => by cases h⟩
  obtain ⟨_, Fs', h1⟩ := Go.Sx.freeze (i := 0) rfl (⟨hsl, [F], hh⟩ : St M0 (own [F]) w ⟨0, []⟩ [] [row e A c l] Γi { tmps := #[], defers := [] } w)
  have hnil : Fs' = [] := by
    cases Fs' with
    | nil => rfl
    | cons G Gs => exact h1.ex.elim
  subst hnil
  have hin : Hp M0 (own []) w [] (slA A l :: Γi) [] w := ⟨trivial, .nil, fun b hb => absurd hb (own_nil b), fun b hb => absurd hb (own_nil b), fun b hb => absurd hb (own_nil b), h1.ga, Upd.refl _ _, h1.m0, fun b hb => absurd hb (own_nil b)⟩
  refine (h M0 [] w hin).mono ?_
  rintro en w' ⟨x, Gs, rfl, hout⟩
  have hnew : ∀ b, own Gs b → ¬ b < w.heap.size := fun b hb hl => own_nil b (hout.old b hb hl)
  have hblk : ∀ b, b < w.heap.size → w'.heap[b]? = w.heap[b]? := fun b hb => hout.up.block b hb (own_nil b)
  cases hkx : keep x with
  | false =>
    refine ⟨x, Gs, rfl, ?_⟩
    dsimp only
    rw [hkx]
    refine ⟨hout.ex, hout.dis, hout.dis0, hout.lt, fun b hb hl => absurd hl (hnew b hb), hout.ga, ⟨hout.up.os, hout.up.tape, hout.up.output, hout.up.size, fun b hb _ => hblk b hb⟩, hh.m0, hh.f0⟩
  | true =>
    refine ⟨x, [F], rfl, ?_⟩
    dsimp only
    rw [hkx]
    refine ⟨⟨?_, trivial⟩, hh.dis, hh.dis0, fun b hb => Nat.lt_of_lt_of_le (hh.lt b hb) hout.up.size, fun b hb _ => hb, (fun p hp => by cases hp), ⟨hout.up.os, hout.up.tape, hout.up.output, hout.up.size, fun b hb _ => hblk b hb⟩, hh.m0, hh.f0⟩
    exact (row e A c l).st _ _ _ _ _ hrow (fun b hb _ => hblk b hb) (fun b hb hM => hM) hout.up.size
end Go.Sx
namespace Go.Proofs.YtdbiillompeclaaGreatDoor.X
open Go Go.RowKit Go.Proofs Go.Sx
theorem inv_mono {m n m' n' : Nat} {T : List File} (h : AppInv m n T) (h1 : m ≤ m') (h2 : n ≤ n') : AppInv m' n' T := ⟨h.so, h.good, h.lmax.mono h1, Nat.le_trans h.len h2⟩
theorem many_in {l : List Prim} {p : Prim} (h : p ∈ l) : p.many ≤ many l := by
  unfold many
  have : p.many ≤ (l.map Prim.many).sum := by
    induction l with
    | nil => cases h
    | cons q l ih =>
      simp only [List.map_cons, List.sum_cons]
      rcases List.mem_cons.1 h with rfl | h
      · omega
      · have := ih h; omega
  omega
theorem news_in {l : List Prim} {p : Prim} (h : p ∈ l) : p.new.length ≤ news l := by
  unfold news
  induction l with
  | nil => cases h
  | cons q l ih =>
    simp only [List.map_cons, List.sum_cons]
    rcases List.mem_cons.1 h with rfl | h
    · omega
    · have := ih h; omega
/-- how many lines prims name -/
def lnP (p : Prim) : Nat := p.old.length + p.new.length
def lns (l : List Prim) : Nat := (l.map lnP).sum
theorem lns_many (l : List Prim) : lns l ≤ many l := by
  unfold lns many
  have : (l.map lnP).sum ≤ (l.map Prim.many).sum := by
    induction l with
    | nil => simp
    | cons p l ih =>
      simp only [List.map_cons, List.sum_cons]
      have : lnP p ≤ p.many := by unfold lnP Prim.many; omega
      omega
  omega
theorem lns_cons (p : Prim) (l : List Prim) : lns (p :: l) = lnP p + lns l := by simp [lns]
theorem lns_app (l m : List Prim) : lns (l ++ m) = lns l + lns m := by simp [lns]
theorem lns_inv (l : List Prim) : lns (invL l) = lns l := by
  induction l with
  | nil => rfl
  | cons p l ih =>
    rw [invL_cons, lns_app, ih, lns_cons, lns_cons]
    have h1 : lnP p.flip = lnP p := by
      unfold lnP Prim.flip
      repeat' split
      all_goals simp
      all_goals omega
    have h2 : lns [] = 0 := rfl
    omega
theorem news_lns (l : List Prim) : news l ≤ lns l := by
  unfold news lns
  induction l with
  | nil => simp
  | cons p l ih =>
    simp only [List.map_cons, List.sum_cons]
    have : p.new.length ≤ lnP p := by unfold lnP; omega
    omega
theorem take_lns (l : List Prim) (k : Nat) : lns (l.take k) ≤ lns l := by
  have h : lns l = lns (l.take k) + lns (l.drop k) := by rw [← lns_app, List.take_append_drop]
  omega
theorem pas_lns : ∀ {m : List Prim} {p q : Prim} {f : List Prim}, Pas p m f q → lns f = lns m ∧ lnP q = lnP p
  | [], p, q, f, h => by
    obtain ⟨rfl, rfl⟩ := pas_nil.1 h
    exact ⟨rfl, rfl⟩
  | x :: m, p, q, f, h => by
    obtain ⟨a, b, f', h1, h2, rfl⟩ := pas_cons.1 h
    obtain ⟨h3, h4⟩ := pas_lns h2
    obtain ⟨⟨_, k1, k2, _⟩, ⟨_, k3, k4, _⟩⟩ := swap_keeps h1
    rw [lns_cons, lns_cons, h3, h4]
    unfold lnP
    omega
theorem grid_lns {l m f s : List Prim} (h : Grid l m f s) : lns f = lns m ∧ lns s = lns l := by
  induction h with
  | nil => exact ⟨rfl, rfl⟩
  | row hp hg ih =>
    obtain ⟨h1, h2⟩ := pas_lns hp
    rw [lns_app, lns_app, ih.1, ih.2, h1, lns_cons, lns_cons, h2]
    exact ⟨rfl, rfl⟩
theorem swT_lns {l m f s : List Prim} (h : (f, s, true) = swT l m) : lns f = lns m ∧ lns s = lns l := grid_lns (swapL_grid.1 (swT_true.1 h))
theorem swT_le {l m f s : List Prim} {b : Bool} (h : (f, s, b) = swT l m) : f.length ≤ m.length ∧ s.length ≤ l.length := by
  cases b with
  | false => obtain ⟨_, rfl, rfl⟩ := swT_false h; simp
  | true => have := swT_len h; omega
theorem rebT_lns {l m f : List Prim} (h : (f, true) = rebT l m) : lns f = lns m ∧ f.length = m.length := by
  obtain ⟨s, h1, _⟩ := reb_turn (rebT_true h)
  exact ⟨(grid_lns (swapL_grid.1 h1)).1, (grid_len (swapL_grid.1 h1)).1⟩
theorem rebT_fit {l m f : List Prim} {b : Bool} (h : (f, b) = rebT l m) (hl : ∀ x ∈ l, x.fit) (hm : ∀ x ∈ m, x.fit) : (∀ x ∈ f, x.fit) ∧ f.length ≤ m.length := by
  cases b with
  | false => obtain ⟨_, rfl⟩ := rebT_false h; simp
  | true => have := reb_ok (rebT_true h) hl hm; exact ⟨this.2, by omega⟩
/-- a tree to which a prim can be put, and it stays of a size that can be told -/
structure Bnd (M : List File) (p : Prim) : Prop where
  so : Sor M
  good : Go.Sx.Good M
  fit : ∀ x ∈ M, x.2.length ≤ 2000000
  b : ∀ u, (getL M u).length + p.new.length ≤ 2000000
  len : M.length ≤ 2000000
theorem run_b {m n k : Nat} {T M : List File} {l : List Prim} (hi : AppInv m n T) (hm : m + 2 * lns l ≤ 1900000) (hn : n + 2 * l.length ≤ 1900000) (h : Runs T (l.take k) M) (hk : k < l.length) : Bnd M l[k] := by
  have h1 := runs_inv h hi
  have h2 : news (l.take k) ≤ lns l := Nat.le_trans (news_lns _) (take_lns l k)
  have h3 : l[k].new.length ≤ lns l := Nat.le_trans (news_in (List.getElem_mem hk)) (news_lns l)
  have h4 : (l.take k).length ≤ l.length := by rw [List.length_take]; omega
  exact ⟨h1.so, h1.good, fun x hx => by have := h1.lmax x hx; omega, fun u => by have := h1.lmax.get u; omega, by have := h1.len; omega⟩
theorem undo_b {m n k j : Nat} {T M N : List File} {l : List Prim} (hi : AppInv m n T) (hm : m + 2 * lns l ≤ 1900000) (hn : n + 2 * l.length ≤ 1900000) (h : Runs T (l.take k) M) (hu : Undo T l k j M N) (hj : j < (invL (l.take k)).length) : Bnd N (invL (l.take k))[j] := by
  have h1 := runs_inv hu.done (runs_inv h hi)
  have h2 : news (l.take k) ≤ lns (l.take k) := news_lns (l.take k)
  have h3 : news (invL (l.take k)) ≤ lns (l.take k) := by have := news_lns (invL (l.take k)); rwa [lns_inv] at this
  have h4 : (l.take k).length ≤ l.length := by rw [List.length_take]; omega
  have h5 := news_take (invL (l.take k)) j
  have h6 : news ((invL (l.take k)).take (j + 1)) = news ((invL (l.take k)).take j) + (invL (l.take k))[j].new.length := sum_take_succ (f := fun p : Prim => p.new.length) hj
  have h9 := news_take (invL (l.take k)) (j + 1)
  have h7 : ((invL (l.take k)).take j).length ≤ l.length := by rw [List.length_take, invL_len]; omega
  have h8 := take_lns l k
  exact ⟨h1.so, h1.good, fun x hx => by have := h1.lmax x hx; omega, fun u => by have := h1.lmax.get u; omega, by have := h1.len; omega⟩
/-- what a row makes of a tree is of a size that can be told -/
theorem rowT_inv {m n : Nat} {T U : List File} {l : List Prim} {e : Int} (hi : AppInv m n T) (h : (U, e) = rowT T l) : AppInv (m + lns l) (n + l.length) U := by
  by_cases he : e = 0
  · subst he
    exact inv_mono (runs_inv (rowT_runs h.symm) hi) (by have := news_lns l; omega) (Nat.le_refl _)
  · rw [rowT_no h he]
    exact inv_mono hi (by omega) (by omega)
theorem inv_fit {m n : Nat} {T : List File} (h : AppInv m n T) (hm : m ≤ 2000000) : ∀ x ∈ T, x.2.length ≤ 2000000 := fun x hx => by have := h.lmax x hx; omega
end Go.Proofs.YtdbiillompeclaaGreatDoor.X

end
