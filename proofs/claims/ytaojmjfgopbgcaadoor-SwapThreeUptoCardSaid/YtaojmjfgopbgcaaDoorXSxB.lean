/- OWN WORK: a part of the proof of a law of the seat YtaojmjfgopbgcaaDoor: the rules by which the code is walked. -/
import Derived.Test.YtaojmjfgopbgcaaDoorXSxA
set_option linter.unusedVariables false
set_option linter.unusedSimpArgs false
namespace Go.Sx
open Go Go.RowKit

theorem all2.set {M M' w w'} {x' : Xsn} {F : Nat → Prop} : ∀ {Ξ Fs} {i : Nat}, all2 M w Ξ Fs → Fs[i]? = some F → Fs.Pairwise (fun F G => ∀ b, F b → ¬ G b) →
    (∀ b, b < w.heap.size → ¬ F b → w'.heap[b]? = w.heap[b]?) → (∀ b, own Fs b → M b) → (∀ b, b < w.heap.size → M' b → M b) → w.heap.size ≤ w'.heap.size → x'.p F M' w' → all2 M' w' (Ξ.set i x') Fs
  | x :: Ξ, G :: Fs, 0, h, hi, hd, hb, hO, hM, hs, hx => by
    have : G = F := by simpa using hi
    subst this
    refine ⟨hx, h.2.st (fun b hlt hF => hb b hlt ?_) hM hs⟩
    intro hg
    rcases hF with ⟨G', hG', hgb⟩ | hn
    · exact (List.pairwise_cons.1 hd).1 G' hG' b hg hgb
    · exact hn (hO b (own_cons.2 (.inl hg)))
  | x :: Ξ, G :: Fs, i + 1, h, hi, hd, hb, hO, hM, hs, hx => by
    have hi' : Fs[i]? = some F := by simpa using hi
    have hmem : F ∈ Fs := List.mem_of_getElem? hi'
    refine ⟨x.st G _ _ _ _ h.1 (fun b hlt hF => hb b hlt ?_) hM hs, all2.set (i := i) h.2 hi' (List.pairwise_cons.1 hd).2 hb (fun b hb => hO b (own_cons.2 (.inr hb))) hM hs hx⟩
    intro hf
    rcases hF with hg | hn
    · exact (List.pairwise_cons.1 hd).1 F hmem b hg hf
    · exact hn (hO b (own_cons.2 (.inr ⟨F, hmem, hf⟩)))
  | [], [], i, h, hi, _, _, _, _, _, _ => by simp at hi
  | [], _ :: _, _, h, _, _, _, _, _, _, _ => h.elim
  | _ :: _, [], _, h, _, _, _, _, _, _, _ => h.elim

/-- what is exclusive at i changes in place -/
theorem Hp.set {M0 F0 w0 Ξ Γ Fs w} (h : Hp M0 F0 w0 Ξ Γ Fs w) {i : Nat} {x' : Xsn} {F : Nat → Prop} {w' : World} (hF : Fs[i]? = some F) (hu : Upd F w w') (hx : x'.p F (fun b => M0 b ∨ own Fs b) w') :
    Hp M0 F0 w0 (Ξ.set i x') Γ Fs w' where
  ex := h.ex.set hF h.dis hu.block (fun b hb => .inr hb) (fun b _ hb => hb) hu.size hx
  dis := h.dis
  dis0 := h.dis0
  lt := fun b hb => Nat.lt_of_lt_of_le (h.lt b hb) hu.size
  old := h.old
  ga := fun p hp => p.st _ _ _ _ (h.ga p hp) (fun b hb hn => hu.block b hb (fun hf => hn (.inr ⟨F, List.mem_of_getElem? hF, hf⟩))) (fun b _ hb => hb) hu.size
  up := h.up.trans hu (fun b hb hf => h.old b ⟨F, List.mem_of_getElem? hF, hf⟩ hb)
  m0 := h.m0
  f0 := h.f0

theorem Hp.setBox {M0 F0 w0 Ξ Γ Fs w} (h : Hp M0 F0 w0 Ξ Γ Fs w) {i b : Nat} {t : TypeId} {cs : List Value} (hi : Ξ[i]? = some (box b t cs)) (cs' : List Value) :
    Hp M0 F0 w0 (Ξ.set i (box b t cs')) Γ Fs (w.setRow b cs'.toArray) := by
  obtain ⟨F, hF, hp⟩ := h.ex.at hi
  refine h.set hF ⟨rfl, rfl, rfl, by simp, fun k _ hk => setRow_other w b k _ (fun e => hk ((hp.1 k).2 e))⟩ ⟨hp.1, setRow_heap w b _ _ t _ hp.2⟩

/-! ### selecting -/
def takeAt {α : Type} : Nat → List α → Option (α × List α)
  | _, [] => none
  | 0, x :: l => some (x, l)
  | i + 1, x :: l => match takeAt i l with
    | some (y, l') => some (y, x :: l')
    | none => none
/-- the exclusive ones that a callee is given (in its order), and those that are left -/
def takeAll {α : Type} : List Nat → List α → Option (List α × List α)
  | [], l => some ([], l)
  | i :: is, l => match takeAt i l with
    | some (x, l') => match takeAll is l' with
      | some (xs, l'') => some (x :: xs, l'')
      | none => none
    | none => none
theorem all2.takeAt {M w} : ∀ {i : Nat} {Ξ : List Xsn} {Fs} {x : Xsn} {Ξ'}, all2 M w Ξ Fs → Sx.takeAt i Ξ = some (x, Ξ') → ∃ F Fs', Sx.takeAt i Fs = some (F, Fs') ∧ x.p F M w ∧ all2 M w Ξ' Fs'
  | 0, y :: Ξ, F :: Fs, x, Ξ', h, hi => by
    simp only [Sx.takeAt, Option.some.injEq, Prod.mk.injEq] at hi
    obtain ⟨rfl, rfl⟩ := hi
    exact ⟨F, Fs, rfl, h.1, h.2⟩
  | i + 1, y :: Ξ, F :: Fs, x, Ξ', h, hi => by
    simp only [Sx.takeAt] at hi
    split at hi
    · rename_i z l' hz
      simp only [Option.some.injEq, Prod.mk.injEq] at hi
      obtain ⟨rfl, rfl⟩ := hi
      obtain ⟨G, Fs', h1, h2, h3⟩ := all2.takeAt h.2 hz
      exact ⟨G, F :: Fs', by simp [Sx.takeAt, h1], h2, h.1, h3⟩
    · cases hi
  | 0, [], [], _, _, _, hi => by simp [Sx.takeAt] at hi
  | _ + 1, [], [], _, _, _, hi => by simp [Sx.takeAt] at hi
  | 0, [], _ :: _, _, _, h, _ => h.elim
  | 0, _ :: _, [], _, _, h, _ => h.elim
  | _ + 1, [], _ :: _, _, _, h, _ => h.elim
  | _ + 1, _ :: _, [], _, _, h, _ => h.elim
theorem takeAt_perm {α : Type} : ∀ {i : Nat} {l : List α} {x l'}, takeAt i l = some (x, l') → List.Perm l (x :: l')
  | 0, y :: l, x, l', h => by
    simp only [takeAt, Option.some.injEq, Prod.mk.injEq] at h
    obtain ⟨rfl, rfl⟩ := h
    exact List.Perm.refl _
  | i + 1, y :: l, x, l', h => by
    simp only [takeAt] at h
    split at h
    · rename_i z l2 hz
      simp only [Option.some.injEq, Prod.mk.injEq] at h
      obtain ⟨rfl, rfl⟩ := h
      exact (List.Perm.cons y (takeAt_perm hz)).trans (List.Perm.swap z y l2)
    · cases h
  | 0, [], _, _, h => by simp [takeAt] at h
  | _ + 1, [], _, _, h => by simp [takeAt] at h
theorem all2.takeAll {M w} : ∀ {is : List Nat} {Ξ : List Xsn} {Fs} {xs Ξ'}, all2 M w Ξ Fs → Sx.takeAll is Ξ = some (xs, Ξ') → ∃ Gs Fs', List.Perm Fs (Gs ++ Fs') ∧ all2 M w xs Gs ∧ all2 M w Ξ' Fs'
  | [], Ξ, Fs, xs, Ξ', h, hi => by
    simp only [Sx.takeAll, Option.some.injEq, Prod.mk.injEq] at hi
    obtain ⟨rfl, rfl⟩ := hi
    exact ⟨[], Fs, List.Perm.refl _, trivial, h⟩
  | i :: is, Ξ, Fs, xs, Ξ', h, hi => by
    simp only [Sx.takeAll] at hi
    split at hi
    · rename_i x l' hz
      split at hi
      · rename_i ys l'' hy
        simp only [Option.some.injEq, Prod.mk.injEq] at hi
        obtain ⟨rfl, rfl⟩ := hi
        obtain ⟨F, Fs1, h1, h2, h3⟩ := h.takeAt hz
        obtain ⟨Gs, Fs2, k1, k2, k3⟩ := all2.takeAll h3 hy
        exact ⟨F :: Gs, Fs2, (takeAt_perm h1).trans (k1.cons F), ⟨h2, k2⟩, k3⟩
      · cases hi
    · cases hi
theorem own_perm {Fs Gs : List (Nat → Prop)} (h : List.Perm Fs Gs) (b) : own Fs b ↔ own Gs b := by simp [own, h.mem_iff]
theorem disj_symm {F G : Nat → Prop} (h : ∀ b, F b → ¬ G b) : ∀ b, G b → ¬ F b := fun b hg hf => h b hf hg

def pickAll {α : Type} : List Nat → List α → Option (List α)
  | [], _ => some []
  | i :: is, l => match l[i]?, pickAll is l with
    | some x, some xs => some (x :: xs)
    | _, _ => none
theorem pickAll_mem {α : Type} : ∀ {is : List Nat} {l xs : List α}, pickAll is l = some xs → ∀ x ∈ xs, x ∈ l
  | [], l, xs, h, x, hx => by
    simp only [pickAll, Option.some.injEq] at h
    subst h; cases hx
  | i :: is, l, xs, h, x, hx => by
    simp only [pickAll] at h
    split at h
    · rename_i y ys h1 h2
      cases h
      cases hx with
      | head => exact List.mem_of_getElem? h1
      | tail _ hx => exact pickAll_mem h2 x hx
    · cases h

/-! ### contracts -/
def Con (P : Program) (f : FuncId) (args : List Value) (Ξi : List Xsn) (Γi : List Asn) (X : Type) (rv : X → Value) (Ξo : X → List Xsn) (Γo : X → List Asn) : Prop :=
  ∀ M0 Fs w, Hp M0 (own Fs) w Ξi Γi Fs w → Calls P f args.toArray w fun e w' => ∃ x Fs', e = .returned (rv x) ∧ Hp M0 (own Fs) w (Ξo x) (Γo x) Fs' w'

theorem perm_pairwise {Fs Gs : List (Nat → Prop)} (h : List.Perm Fs Gs) (hd : Fs.Pairwise (fun F G => ∀ b, F b → ¬ G b)) : Gs.Pairwise (fun F G => ∀ b, F b → ¬ G b) :=
  h.pairwise hd (fun h => disj_symm h)

theorem Hp.select {M0 F0 w0 Ξ Γ Fs w} (h : Hp M0 F0 w0 Ξ Γ Fs w) {is : List Nat} {xs Ξ' : List Xsn} {Γi : List Asn} (hs : takeAll is Ξ = some (xs, Ξ')) (hg : ∀ p ∈ Γi, p ∈ Γ) :
    ∃ Gs Hs, List.Perm Fs (Gs ++ Hs) ∧ Hp (fun b => M0 b ∨ own Hs b) (own Gs) w xs Γi Gs w ∧ all2 (fun b => M0 b ∨ own Fs b) w Ξ' Hs := by
  obtain ⟨Gs, Hs, hp, hx, hr⟩ := h.ex.takeAll hs
  have hown : ∀ b, own Fs b ↔ own Gs b ∨ own Hs b := fun b => (own_perm hp b).trans own_append
  have hpw := List.pairwise_append.1 (perm_pairwise hp h.dis)
  have hMM : ∀ b, (M0 b ∨ own Hs b) ∨ own Gs b ↔ M0 b ∨ own Fs b := fun b => by rw [hown b, or_assoc, or_comm (a := own Hs b)]
  refine ⟨Gs, Hs, hp, ⟨hx.st (fun _ _ _ => rfl) (fun b _ hb => (hMM b).1 hb) (Nat.le_refl _), hpw.1, ?_, fun b hb => h.lt b ((hown b).2 (.inl hb)), fun b hb _ => hb, ?_, Upd.refl _ _, ?_, ?_⟩, hr⟩
  · rintro b ⟨F, hF, hb⟩ (hm | ⟨G, hG, hg⟩)
    · exact h.dis0 b ((hown b).2 (.inl ⟨F, hF, hb⟩)) hm
    · exact hpw.2.2 F hF G hG b hb hg
  · exact fun p hp' => p.st _ _ _ _ (h.ga p (hg p hp')) (fun _ _ _ => rfl) (fun b _ hb => (hMM b).1 hb) (Nat.le_refl _)
  · rintro b (hm | hm)
    · exact Nat.lt_of_lt_of_le (h.m0 b hm) h.up.size
    · exact h.lt b ((hown b).2 (.inr hm))
  · rintro b ⟨F, hF, hb⟩ (hm | ⟨G, hG, hg⟩)
    · exact h.dis0 b ((hown b).2 (.inl ⟨F, hF, hb⟩)) hm
    · exact hpw.2.2 F hF G hG b hb hg

theorem all2.append {M w} : ∀ {Ξ Fs Ξ' Fs'}, all2 M w Ξ Fs → all2 M w Ξ' Fs' → all2 M w (Ξ ++ Ξ') (Fs ++ Fs')
  | [], [], _, _, _, h => h
  | x :: Ξ, F :: Fs, _, _, h, h' => ⟨h.1, all2.append h.2 h'⟩
  | [], _ :: _, _, _, h, _ => h.elim
  | _ :: _, [], _, _, h, _ => h.elim

theorem Hp.back {M0 F0 w0 Ξ Γ Fs w} (h : Hp M0 F0 w0 Ξ Γ Fs w) {Gs Hs Ξ' Ξo Γo Gs' w'} (hp : List.Perm Fs (Gs ++ Hs)) (hr : all2 (fun b => M0 b ∨ own Fs b) w Ξ' Hs)
    (k : Hp (fun b => M0 b ∨ own Hs b) (own Gs) w Ξo Γo Gs' w') : Hp M0 F0 w0 (Ξo ++ Ξ') (Γo ++ Γ) (Gs' ++ Hs) w' := by
  have hown : ∀ b, own Fs b ↔ own Gs b ∨ own Hs b := fun b => (own_perm hp b).trans own_append
  have hpw := List.pairwise_append.1 (perm_pairwise hp h.dis)
  have hMM : ∀ b, (M0 b ∨ own Hs b) ∨ own Gs' b ↔ M0 b ∨ own (Gs' ++ Hs) b := fun b => by rw [own_append, or_assoc, or_comm (a := own Hs b)]
  have hM : ∀ b, b < w.heap.size → (M0 b ∨ own (Gs' ++ Hs) b) → (M0 b ∨ own Fs b) := fun b hb hm => by
    rw [own_append] at hm
    rcases hm with hm | hm | hm
    · exact .inl hm
    · exact .inr ((hown b).2 (.inl (k.old b hm hb)))
    · exact .inr ((hown b).2 (.inr hm))
  refine ⟨(k.ex.st (fun _ _ _ => rfl) (fun b _ hb => (hMM b).2 hb) (Nat.le_refl _)).append (hr.st (fun b hb hF => k.up.block b hb ?_) hM k.up.size), ?_, ?_, ?_, ?_, ?_, ?_, h.m0, h.f0⟩
  · intro hg
    rcases hF with ⟨H, hH, hh⟩ | hn
    · obtain ⟨G, hG, hg⟩ := hg
      exact hpw.2.2 G hG H hH b hg hh
    · exact hn (.inr ((hown b).2 (.inl hg)))
  · refine List.pairwise_append.2 ⟨k.dis, hpw.2.1, fun F hF G hG b hf hg => ?_⟩
    exact k.dis0 b ⟨F, hF, hf⟩ (.inr ⟨G, hG, hg⟩)
  · intro b hb hm
    rw [own_append] at hb
    rcases hb with hb | hb
    · exact k.dis0 b hb (.inl hm)
    · exact h.dis0 b ((hown b).2 (.inr hb)) hm
  · intro b hb
    rw [own_append] at hb
    rcases hb with hb | hb
    · exact k.lt b hb
    · exact Nat.lt_of_lt_of_le (h.lt b ((hown b).2 (.inr hb))) k.up.size
  · intro b hb hlt
    rw [own_append] at hb
    have hlt' := Nat.lt_of_lt_of_le hlt h.up.size
    rcases hb with hb | hb
    · exact h.old b ((hown b).2 (.inl (k.old b hb hlt'))) hlt
    · exact h.old b ((hown b).2 (.inr hb)) hlt
  · intro p hp'
    rcases List.mem_append.1 hp' with hp' | hp'
    · exact p.st _ _ _ _ (k.ga p hp') (fun _ _ _ => rfl) (fun b _ hb => (hMM b).2 hb) (Nat.le_refl _)
    · exact p.st _ _ _ _ (h.ga p hp') (fun b hb hn => k.up.block b hb (fun hg => hn (.inr ((hown b).2 (.inl hg))))) hM k.up.size
  · exact h.up.trans k.up (fun b hb hg => h.old b ((hown b).2 (.inl hg)) hb)

/-! ### one operation -/
def OpR (P : Program) (o : Oper) (S S' : Act → World → Prop) : Prop :=
  ∀ (K : Act → World → Prop) (Q : Exit → Act → World → Prop) a w, S a w → (∀ a' w', S' a' w' → K a' w') → o.guard = none ∧ o.wp P a w K Q
theorem OpR.mono {P o S S' S''} (h : OpR P o S S') (hs : ∀ a w, S' a w → S'' a w) : OpR P o S S'' :=
  fun K Q a w hS hK => h K Q a w hS (fun a' w' h' => hK a' w' (hs a' w' h'))
/-- an operation that runs to a value -/
theorem OpR.of_run {P o S S'} (hg : o.guard = none) (h : ∀ a w, S a w → ∃ v w', (execOp a.eval o).run P w = .ok (.value v) w' ∧ S' (a.put o.dst v) w') : OpR P o S S' := by
  intro K Q a w hS hK
  obtain ⟨v, w', hr, hS'⟩ := h a w hS
  exact ⟨hg, by unfold Oper.wp; rw [hr]; exact hK _ _ hS'⟩
theorem OpR.of_skip {P o S S'} (hg : o.guard = none) (h : ∀ a w, S a w → ∃ w', (execOp a.eval o).run P w = .ok .skip w' ∧ S' (a.put o.dst undef) w') : OpR P o S S' := by
  intro K Q a w hS hK
  obtain ⟨w', hr, hS'⟩ := h a w hS
  exact ⟨hg, by unfold Oper.wp; rw [hr]; exact hK _ _ hS'⟩
theorem OpR.of_enter {P o S S'} (hg : o.guard = none) (h : ∀ a w, S a w → ∃ f args, (execOp a.eval o).run P w = .ok (.enter f args) w ∧ Calls P f args w fun e w' => ∃ v, e = .returned v ∧ S' (a.put o.dst v) w') : OpR P o S S' := by
  intro K Q a w hS hK
  obtain ⟨f, args, hr, hc⟩ := h a w hS
  refine ⟨hg, ?_⟩
  unfold Oper.wp
  rw [hr]
  refine Calls.mono hc ?_
  rintro e w' ⟨v, rfl, h'⟩
  exact hK _ _ h'

/-! ### the walk -/
def TrL (P : Program) (ops : Array Oper) (Q : Exit → Act → World → Prop) (S : Act → World → Prop) (l : List Oper) : Prop := ∀ a w, S a w → wpList P ops Q l a w
def TrC (P : Program) (Q : Exit → Act → World → Prop) (S : Act → World → Prop) (c : Code) : Prop := ∀ a w, S a w → c.wp P Q a w
def TrN (Q : Exit → Act → World → Prop) (e : Exit) (S : Act → World → Prop) : Prop := ∀ a w, S a w → Q e a w
section
variable {P : Program} {ops : Array Oper} {Q : Exit → Act → World → Prop} {S S' : Act → World → Prop}
theorem ls {o : Oper} {l : List Oper} (h : OpR P o S S') (k : TrL P ops Q S' l) : TrL P ops Q S (o :: l) := by
  intro a w hS
  obtain ⟨hg, hw⟩ := h (wpList P ops Q l) Q a w hS k
  unfold wpList
  rw [if_pos (by simp [Region.wanted, hg])]
  exact .inl hw
theorem le {X : Type} {S : X → Act → World → Prop} {l : List Oper} (k : ∀ x, TrL P ops Q (S x) l) : TrL P ops Q (fun a w => ∃ x, S x a w) l := fun a w ⟨x, h⟩ => k x a w h
theorem ln (k : TrN Q .normal S) : TrL P ops Q S [] := k
theorem cr {id : Nat} {l : List Oper} (k : TrL P l.toArray Q S l) : TrC P Q S (.region id l.toArray false) := fun a w h => wp_region_lit (k a w h)
theorem cs {x y : Code} (k : TrC P (Exit.then (y.wp P Q) Q) S x) : TrC P Q S (.seq x y) := fun a w h => wp_seq (k a w h)
theorem cb {id : Nat} {c : Code} (k : TrC P (Exit.inBlock id Q) S c) : TrC P Q S (.block id c) := fun a w h => wp_block (k a w h)
theorem cskip (k : TrN Q .normal S) : TrC P Q S .skip := fun a w h => wp_skip (k a w h)
theorem cexit {id : Nat} (k : TrN Q (.exit id) S) : TrC P Q S (.exit id) := fun a w h => wp_exit (k a w h)
theorem cret (k : TrN Q .ret S) : TrC P Q S .ret := fun a w h => wp_ret (k a w h)
theorem nthen {y : Code} {Q' : Exit → Act → World → Prop} (k : TrC P Q S y) : TrN (Exit.then (y.wp P Q) Q') .normal S := k
theorem nblock {id : Nat} (k : TrN Q .normal S) : TrN (Exit.inBlock id Q) .normal S := k
theorem xthen {id : Nat} {N : Act → World → Prop} (k : TrN Q (.exit id) S) : TrN (Exit.then N Q) (.exit id) S := k
theorem xblock {id : Nat} (k : TrN Q .normal S) : TrN (Exit.inBlock id Q) (.exit id) S := fun a w h => by unfold Exit.inBlock; simp only [if_true]; exact k a w h
theorem xblock' {id id' : Nat} (hn : Nat.beq id id' = false) (k : TrN Q (.exit id) S) : TrN (Exit.inBlock id' Q) (.exit id) S := fun a w h => by
  have : ¬ id = id' := Nat.ne_of_beq_eq_false hn
  unfold Exit.inBlock; simp only [if_neg this]; exact k a w h
theorem xret {fn : Func} {R : Ending → World → Prop} (hQ : ∀ a w, bodyPost P fn R .ret a w → Q .ret a w) (k : TrN (bodyPost P fn R) .ret S) : TrN Q .ret S := fun a w h => hQ a w (k a w h)
theorem cmono {c : Code} (hs : ∀ a w, S a w → S' a w) (k : TrC P Q S' c) : TrC P Q S c := fun a w h => k a w (hs a w h)
theorem lmono {l : List Oper} (hs : ∀ a w, S a w → S' a w) (k : TrL P ops Q S' l) : TrL P ops Q S l := fun a w h => k a w (hs a w h)
theorem nmono {e : Exit} (hs : ∀ a w, S a w → S' a w) (k : TrN Q e S') : TrN Q e S := fun a w h => k a w (hs a w h)
end
end Go.Sx
