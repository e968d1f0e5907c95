/- OWN WORK: a part of the proof of a law of the seat YtdbiillompeclaaGreatDoor: contracts. -/
import Derived.Test.YtdbiillompeclaaGreatDoorXSx2
import Derived.Maps.RangeRun
import Derived.MapKept
import Derived.Laws.Externs
import Derived.Test.YtdbiillompeclaaGreatDoorXDef
import Derived.Lib.AppendStr
import Derived.Lib.UnsafeStr
import Derived.Lib.Builder
import Derived.Lib.ItoaNum
section
set_option linter.unusedVariables false
set_option linter.unusedSimpArgs false
namespace Go.Sx
open Go Go.RowKit Go.MapKept

/-! Files, rising by name: what a tree's map holds. -/
def kl (a b : ByteArray) : Prop := ofB a < ofB b
instance (a b : ByteArray) : Decidable (kl a b) := inferInstanceAs (Decidable (ofB a < ofB b))
theorem ofB_inj {a b : ByteArray} (h : ofB a = ofB b) : a = b := by
  have : toB (ofB a) = toB (ofB b) := by rw [h]
  simpa [toB_ofB] using this
theorem kl_irrefl (a : ByteArray) : ¬ kl a a := List.lt_irrefl _
theorem kl_trans {a b c : ByteArray} (h : kl a b) (k : kl b c) : kl a c := List.lt_trans h k
theorem kl_ne {a b : ByteArray} (h : kl a b) : a ≠ b := fun e => kl_irrefl b (e ▸ h)
theorem kl_tri {a b : ByteArray} (h : ¬ kl a b) (k : ¬ kl b a) : a = b := ofB_inj (List.le_antisymm (List.not_lt.1 k) (List.not_lt.1 h))
theorem bytesLess_lt : ∀ x y : List UInt8, Op.bytesLess x y = decide (x < y)
  | [], [] => by simp [Op.bytesLess]
  | _ :: _, [] => by simp [Op.bytesLess]
  | [], _ :: _ => by simp [Op.bytesLess]
  | a :: x, b :: y => by
    simp only [Op.bytesLess, bytesLess_lt x y, List.cons_lt_cons_iff, Bool.decide_or, Bool.decide_and]
    congr 2
theorem toList_ofB (b : ByteArray) : b.toList = ofB b := ByteArray.toList_eq b
theorem less_kl (a b : ByteArray) : Op.bytesLess a.toList b.toList = decide (kl a b) := by
  rw [toList_ofB, toList_ofB, bytesLess_lt]; rfl
theorem more_kl (a b : ByteArray) : (!(Op.bytesLess a.toList b.toList || decide (a = b))) = decide (kl b a) := by
  rw [less_kl]
  by_cases h : kl a b
  · have h2 : ¬ kl b a := fun k => kl_irrefl a (kl_trans h k)
    simp [h, h2]
  · by_cases e : a = b
    · subst e; simp [kl_irrefl]
    · have : kl b a := Classical.byContradiction fun k => e (kl_tri h k)
      simp [h, e, this]

abbrev File := ByteArray × List ByteArray
def Sor (T : List File) : Prop := T.Pairwise fun a b => kl a.1 b.1
def getT (T : List File) (k : ByteArray) : Option (List ByteArray) := (T.find? fun x => decide (x.1 = k)).map (·.2)
def getL (T : List File) (k : ByteArray) : List ByteArray := (getT T k).getD []
def hasT (T : List File) (k : ByteArray) : Bool := (getT T k).isSome
def delT (T : List File) (k : ByteArray) : List File := T.filter fun x => decide (x.1 ≠ k)
def putT (T : List File) (k : ByteArray) (l : List ByteArray) : List File :=
  (delT T k).filter (fun x => decide (kl x.1 k)) ++ (k, l) :: (delT T k).filter (fun x => decide (kl k x.1))
theorem Sor.nil : Sor [] := List.Pairwise.nil
theorem Sor.keys {T : List File} (h : Sor T) : (T.map (·.1)).Nodup := by
  unfold List.Nodup
  rw [List.pairwise_map]
  exact h.imp fun h => kl_ne h
theorem Sor.key_eq {T : List File} (h : Sor T) {x y : File} (hx : x ∈ T) (hy : y ∈ T) (e : x.1 = y.1) : x = y := by
  induction T with
  | nil => cases hx
  | cons z T ih =>
    obtain ⟨h1, h2⟩ := List.pairwise_cons.1 h
    rcases List.mem_cons.1 hx with rfl | hx'
    · rcases List.mem_cons.1 hy with rfl | hy'
      · rfl
      · exact absurd e (kl_ne (h1 y hy'))
    · rcases List.mem_cons.1 hy with rfl | hy'
      · exact absurd e.symm (kl_ne (h1 x hx'))
      · exact ih h2 hx' hy'
theorem mem_delT {T : List File} {k : ByteArray} {x : File} : x ∈ delT T k ↔ x ∈ T ∧ x.1 ≠ k := by simp [delT]
theorem mem_putT {T : List File} {k : ByteArray} {l : List ByteArray} {x : File} : x ∈ putT T k l ↔ x = (k, l) ∨ (x ∈ T ∧ x.1 ≠ k) := by
  simp only [putT, List.mem_append, List.mem_cons, List.mem_filter, mem_delT, decide_eq_true_eq]
  constructor
  · rintro (h | h | h)
    · exact .inr h.1
    · exact .inl h
    · exact .inr h.1
  · rintro (h | h)
    · exact .inr (.inl h)
    · by_cases h1 : kl x.1 k
      · exact .inl ⟨h, h1⟩
      · exact .inr (.inr ⟨h, Classical.byContradiction fun h2 => h.2 (kl_tri h1 h2)⟩)
theorem Sor.del {T : List File} (h : Sor T) (k : ByteArray) : Sor (delT T k) := List.Pairwise.filter _ h
theorem Sor.put {T : List File} (h : Sor T) (k : ByteArray) (l : List ByteArray) : Sor (putT T k l) := by
  refine List.pairwise_append.2 ⟨(h.del k).filter _, List.pairwise_cons.2 ⟨fun x hx => ?_, (h.del k).filter _⟩, fun x hx y hy => ?_⟩
  · simpa using (List.mem_filter.1 hx).2
  · have h1 : kl x.1 k := by simpa using (List.mem_filter.1 hx).2
    rcases List.mem_cons.1 hy with rfl | hy
    · exact h1
    · exact kl_trans h1 (by simpa using (List.mem_filter.1 hy).2)
theorem getT_some {T : List File} (h : Sor T) {k : ByteArray} {l : List ByteArray} : getT T k = some l ↔ (k, l) ∈ T := by
  unfold getT
  constructor
  · intro e
    obtain ⟨x, hx, rfl⟩ := Option.map_eq_some_iff.1 e
    have h1 := List.mem_of_find?_eq_some hx
    have h2 : x.1 = k := by simpa using List.find?_some hx
    subst h2; exact h1
  · intro hm
    cases e : T.find? (fun x => decide (x.1 = k)) with
    | none =>
      have := List.find?_eq_none.1 e (k, l) hm
      simp at this
    | some x =>
      have h1 := List.mem_of_find?_eq_some e
      have h2 : x.1 = k := by simpa using List.find?_some e
      rw [h.key_eq h1 hm h2]; rfl
theorem getT_none {T : List File} {k : ByteArray} : getT T k = none ↔ ∀ x ∈ T, x.1 ≠ k := by
  simp [getT]
theorem hasT_iff {T : List File} {k : ByteArray} : hasT T k = true ↔ ∃ x ∈ T, x.1 = k := by
  unfold hasT
  rw [Option.isSome_iff_ne_none, Ne, getT_none]
  simp
theorem Sor.nodup {T : List File} (hT : Sor T) : T.Nodup := by
  unfold List.Nodup
  exact List.Pairwise.imp (R := fun a b : File => kl a.1 b.1) (S := fun a b => a ≠ b) (fun h e => kl_ne h (congrArg Prod.fst e)) hT
theorem sor_ext {T U : List File} (hT : Sor T) (hU : Sor U) (h : ∀ x, x ∈ T ↔ x ∈ U) : T = U := by
  have nT := hT.nodup
  have nU := hU.nodup
  exact List.Perm.eq_of_pairwise (le := fun a b : File => kl a.1 b.1) (fun a b _ _ h1 h2 => absurd (kl_trans h1 h2) (kl_irrefl _)) hT hU ((List.perm_ext_iff_of_nodup nT nU).2 h)
theorem sor_perm {T U : List File} (hT : Sor T) (hU : Sor U) (h : T.Perm U) : T = U := sor_ext hT hU fun x => h.mem_iff
theorem sortB_keys {T : List File} (h : Sor T) {l : List ByteArray} (hp : l.Perm (T.map (·.1))) : sortB l = T.map (·.1) := by
  unfold sortB
  have e : (l.map ofB).mergeSort (fun x y => decide (x ≤ y)) = (T.map (·.1)).map ofB := by
    refine List.Perm.eq_of_pairwise (le := fun a b : List UInt8 => decide (a ≤ b) = true) (fun a b _ _ h1 h2 => List.le_antisymm (by simpa using h1) (by simpa using h2)) (List.pairwise_mergeSort ?_ ?_ _) ?_ ?_
    · intro a b c h1 h2
      simp only [decide_eq_true_eq] at *
      exact List.le_trans h1 h2
    · intro a b
      simp only [Bool.or_eq_true, decide_eq_true_eq]
      exact List.le_total a b
    · rw [List.map_map, List.pairwise_map]
      exact h.imp fun {a b} hab => by
        simp only [decide_eq_true_eq]
        exact List.le_of_lt hab
    · exact (List.mergeSort_perm _ _).trans (hp.map ofB)
  rw [e]
  simp [Function.comp_def, toB_ofB]
end Go.Sx

end
section
set_option linter.unusedVariables false
set_option linter.unusedSimpArgs false
namespace Go.Sx
open Go Go.RowKit Go.MapKept

/-! A map of files, which is somebody's own. -/
structure EntOk (M : Nat → Prop) (w : World) (e : MapEntry) (x : File) : Prop where
  key : e.key = .string x.1
  val : ∃ y : Option Addr × Nat, e.val = .slice y.1 x.2.length y.2 ∧ (slA y.1 x.2).p M w ∧ (nilA y).p M w
structure MapIs (M : Nat → Prop) (w : World) (T : List File) (es : Array MapEntry) (clock : Nat) : Prop where
  stamped : Stamped es clock
  so : Sor T
  ent : ∀ e ∈ es.toList, ∃ x ∈ T, EntOk M w e x
  cov : ∀ x ∈ T, ∃ e ∈ es.toList, e.key = .string x.1
theorem EntOk.st {M M' : Nat → Prop} {w w' : World} {e : MapEntry} {x : File} (h : EntOk M w e x) (hb : ∀ b, b < w.heap.size → ¬ M b → w'.heap[b]? = w.heap[b]?) (hm : ∀ b, b < w.heap.size → M' b → M b) (hs : w.heap.size ≤ w'.heap.size) : EntOk M' w' e x := by
  obtain ⟨y, h1, h2, h3⟩ := h.val
  exact ⟨h.key, y, h1, (slA y.1 x.2).st _ _ _ _ h2 hb hm hs, (nilA y).st _ _ _ _ h3 hb hm hs⟩
theorem MapIs.st {M M' : Nat → Prop} {w w' : World} {T : List File} {es : Array MapEntry} {clock : Nat} (h : MapIs M w T es clock) (hb : ∀ b, b < w.heap.size → ¬ M b → w'.heap[b]? = w.heap[b]?) (hm : ∀ b, b < w.heap.size → M' b → M b) (hs : w.heap.size ≤ w'.heap.size) : MapIs M' w' T es clock :=
  ⟨h.stamped, h.so, fun e he => (h.ent e he).imp fun x hx => ⟨hx.1, hx.2.st hb hm hs⟩, h.cov⟩
section
variable {M : Nat → Prop} {w : World} {T : List File} {es es' : Array MapEntry} {clock clock' : Nat} {k : ByteArray} {l : List ByteArray}
theorem MapIs.isKey (h : MapIs M w T es clock) : ∀ e ∈ es.toList, IsKey .string e.key := fun e he => by
  obtain ⟨x, _, hx⟩ := h.ent e he
  rw [hx.key]; trivial
theorem key_inj {a b : ByteArray} (h : Value.string a = Value.string b) : a = b := by injection h
theorem MapIs.nil : MapIs M w [] #[] 0 := ⟨stamped_empty 0, Sor.nil, fun e he => by simp at he, fun x hx => by simp at hx⟩
theorem MapIs.size (h : MapIs M w T es clock) : es.size = T.length := by
  have h1 : (es.toList.map (·.key)).Perm (T.map fun x => Value.string x.1) := by
    refine (List.perm_ext_iff_of_nodup h.stamped.2.2 ?_).2 fun v => ?_
    · have := h.so.keys
      unfold List.Nodup at this ⊢
      rw [List.pairwise_map] at this ⊢
      exact this.imp fun {a b} hab e => hab (key_inj e)
    · simp only [List.mem_map]
      constructor
      · rintro ⟨e, he, rfl⟩
        obtain ⟨x, hx, hk⟩ := h.ent e he
        exact ⟨x, hx, hk.key.symm⟩
      · rintro ⟨x, hx, rfl⟩
        exact h.cov x hx
  have := h1.length_eq
  simpa using this
theorem MapIs.put (h : MapIs M w T es clock) (hst : Stamped es' clock') (hin : ∀ e ∈ es'.toList, (e ∈ es.toList ∧ e.key ≠ .string k) ∨ EntOk M w e (k, l)) (hk : ∃ e ∈ es'.toList, e.key = .string k)
    (hold : ∀ e ∈ es.toList, e.key ≠ .string k → e ∈ es'.toList) : MapIs M w (putT T k l) es' clock' where
  stamped := hst
  so := h.so.put k l
  ent := fun e he => by
    rcases hin e he with ⟨h1, h2⟩ | h1
    · obtain ⟨x, hx, hx2⟩ := h.ent e h1
      exact ⟨x, mem_putT.2 (.inr ⟨hx, fun e' => h2 (by rw [hx2.key, e'])⟩), hx2⟩
    · exact ⟨(k, l), mem_putT.2 (.inl rfl), h1⟩
  cov := fun x hx => by
    rcases mem_putT.1 hx with rfl | ⟨h1, h2⟩
    · exact hk
    · obtain ⟨e, he, hke⟩ := h.cov x h1
      exact ⟨e, hold e he (by rw [hke]; exact fun e' => h2 (key_inj e')), hke⟩
theorem MapIs.del (h : MapIs M w T es clock) (hst : Stamped es' clock') (hin : ∀ e ∈ es'.toList, e ∈ es.toList ∧ e.key ≠ .string k) (hold : ∀ e ∈ es.toList, e.key ≠ .string k → e ∈ es'.toList) : MapIs M w (delT T k) es' clock' where
  stamped := hst
  so := h.so.del k
  ent := fun e he => by
    obtain ⟨h1, h2⟩ := hin e he
    obtain ⟨x, hx, hx2⟩ := h.ent e h1
    exact ⟨x, mem_delT.2 ⟨hx, fun e' => h2 (by rw [hx2.key, e'])⟩, hx2⟩
  cov := fun x hx => by
    obtain ⟨h1, h2⟩ := mem_delT.1 hx
    obtain ⟨e, he, hke⟩ := h.cov x h1
    exact ⟨e, hold e he (by rw [hke]; exact fun e' => h2 (key_inj e')), hke⟩
/-- what a look-up finds -/
theorem MapIs.find (h : MapIs M w T es clock) (k : ByteArray) : (Instr.findNow .string (.string k) es.toList 0 = some none ∧ getT T k = none ∧ ∀ e ∈ es.toList, e.key ≠ .string k) ∨
    ∃ j e l, Instr.findNow .string (.string k) es.toList 0 = some (some (j, e.val)) ∧ es.toList[j]? = some e ∧ EntOk M w e (k, l) ∧ getT T k = some l := by
  rcases findNow_spec (d := .string) (k := .string k) trivial es.toList 0 h.isKey with ⟨h1, h2⟩ | ⟨j, e, h1, h2, h3⟩
  · refine .inl ⟨h1, getT_none.2 fun x hx e' => ?_, h2⟩
    obtain ⟨e, he, hk⟩ := h.cov x hx
    exact h2 e he (by rw [hk, e'])
  · obtain ⟨x, hx, hx2⟩ := h.ent e (List.mem_of_getElem? h2)
    have : x.1 = k := key_inj (hx2.key.symm.trans h3)
    subst this
    exact .inr ⟨j, e, x.2, by simpa using h1, h2, hx2, (getT_some h.so).2 hx⟩
theorem nodup_at {β : Type} {f : MapEntry → β} {l : List MapEntry} (h : (l.map f).Nodup) {i j : Nat} {a b : MapEntry} (ha : l[i]? = some a) (hb : l[j]? = some b) (e : f a = f b) : i = j := by
  obtain ⟨hi, rfl⟩ := List.getElem?_eq_some_iff.1 ha
  obtain ⟨hj, rfl⟩ := List.getElem?_eq_some_iff.1 hb
  have hp := List.pairwise_iff_getElem.1 h
  rcases Nat.lt_trichotomy i j with hlt | rfl | hlt
  · exact absurd (show (l.map f)[i]'(by simpa using hi) = (l.map f)[j]'(by simpa using hj) by rw [List.getElem_map, List.getElem_map]; exact e) (hp i j _ _ hlt)
  · rfl
  · exact absurd (show (l.map f)[j]'(by simpa using hj) = (l.map f)[i]'(by simpa using hi) by rw [List.getElem_map, List.getElem_map]; exact e.symm) (hp j i _ _ hlt)
theorem mem_modify {es : Array MapEntry} {i : Nat} {f : MapEntry → MapEntry} {e : MapEntry} (h : e ∈ (es.modify i f).toList) : ∃ j e0, es.toList[j]? = some e0 ∧ ((j = i ∧ e = f e0) ∨ (j ≠ i ∧ e = e0)) := by
  obtain ⟨j, hj⟩ := List.mem_iff_getElem?.1 h
  rw [Array.getElem?_toList, Array.getElem?_modify] at hj
  split at hj
  · rename_i hij
    obtain ⟨e0, h1, h2⟩ := Option.map_eq_some_iff.1 hj
    exact ⟨j, e0, by simpa using h1, .inl ⟨hij.symm, h2.symm⟩⟩
  · rename_i hij
    exact ⟨j, e, by simpa using hj, .inr ⟨fun e' => hij e'.symm, rfl⟩⟩
theorem of_modify {es : Array MapEntry} {i j : Nat} {f : MapEntry → MapEntry} {e : MapEntry} (h : es.toList[j]? = some e) : (if i = j then f e else e) ∈ (es.modify i f).toList := by
  refine List.mem_iff_getElem?.2 ⟨j, ?_⟩
  rw [Array.getElem?_toList, Array.getElem?_modify]
  have h' : es[j]? = some e := by simpa using h
  rw [h']
  split <;> rfl
theorem mem_erase {es : Array MapEntry} {i : Nat} {e : MapEntry} (hi : i < es.size) : e ∈ (es.eraseIdxIfInBounds i).toList ↔ ∃ j, j ≠ i ∧ es.toList[j]? = some e := by
  unfold Array.eraseIdxIfInBounds
  rw [dif_pos hi, Array.toList_eraseIdx]
  rw [List.mem_eraseIdx_iff_getElem?]
end

def tr (b : Nat) (T : List File) : Xsn where
  p F M w := (∀ x, F x ↔ x = b) ∧ ∃ es clock, w.heap[b]? = some (.map es clock) ∧ MapIs M w T es clock
  st := by
    rintro F M M' w w' ⟨h1, es, clock, h2, h3⟩ hb hm hs
    have hlt : b < w.heap.size := (Array.getElem?_eq_some_iff.1 h2).1
    exact ⟨h1, es, clock, by rw [hb b hlt (.inl ((h1 b).2 rfl)), h2], h3.st (fun b hlt hM => hb b hlt (.inr hM)) hm hs⟩
/-- a range over it: K has come up -/
def mit (b r : Nat) (T K : List File) : Xsn where
  p F M w := b ≠ r ∧ (∀ x, F x ↔ x = b ∨ x = r) ∧ ∃ es clock since seen c0, w.heap[b]? = some (.map es clock) ∧ w.heap[r]? = some (.mapIter (some b) since seen c0) ∧ MapIs M w T es clock ∧
    (∀ e ∈ es.toList, e.born < since) ∧ since ≤ c0 ∧ since ≤ clock ∧ K.Nodup ∧ (∀ x ∈ K, x ∈ T) ∧ (∀ e ∈ es.toList, (seen.contains e.born = true ↔ ∃ x ∈ K, e.key = .string x.1)) ∧
    ∀ x, K.getLast? = some x → c0 = clock ∧ ∃ e ∈ es.toList, e.key = .string x.1 ∧ seen.back? = some e.born
  st := by
    rintro F M M' w w' ⟨h0, h1, es, clock, since, seen, c0, h2, h3, h4, h5⟩ hb hm hs
    have hlt : b < w.heap.size := (Array.getElem?_eq_some_iff.1 h2).1
    have hlt2 : r < w.heap.size := (Array.getElem?_eq_some_iff.1 h3).1
    exact ⟨h0, h1, es, clock, since, seen, c0, by rw [hb b hlt (.inl ((h1 b).2 (.inl rfl))), h2], by rw [hb r hlt2 (.inl ((h1 r).2 (.inr rfl))), h3], h4.st (fun b hlt hM => hb b hlt (.inr hM)) hm hs, h5⟩

section
variable {M0 F0 : Nat → Prop} {w0 w w' : World} {Ξ : List Xsn} {Γ : List Asn} {Fs : List (Nat → Prop)}
theorem Hp.one_of {x : Xsn} (h : Hp M0 F0 w0 [x] Γ Fs w) : ∃ F, Fs = [F] ∧ x.p F (fun b => M0 b ∨ own [F] b) w := by
  match Fs, h with
  | [F], h => exact ⟨F, rfl, h.ex.1⟩
  | _ :: _ :: _, h => exact h.ex.2.elim
  | [], h => exact h.ex.elim
theorem Hp.oneG {F : Nat → Prop} {x : Xsn} (h : Hp M0 (own [F]) w [x] Γ [F] w) {F' : Nat → Prop} {x' : Xsn} {Γ' : List Asn} (hu : Upd F w w') (hF : ∀ b, F' b → F b ∨ w.heap.size ≤ b) (hlt : ∀ b, F' b → b < w'.heap.size) (hx : x'.p F' (fun b => M0 b ∨ own [F'] b) w')
    (hg : ∀ p ∈ Γ', p.p (fun b => M0 b ∨ own [F'] b) w') : Hp M0 (own [F]) w [x'] Γ' [F'] w' :=
  { h.one hu hF hlt hx with ga := hg }
/-- one thing is weakened -/
theorem Hp.conv1 {x x' : Xsn} (h : Hp M0 F0 w0 (x :: Ξ) Γ Fs w) (hc : ∀ F, x.p F (fun b => M0 b ∨ own Fs b) w → ∃ F', (∀ b, F' b → F b) ∧ x'.p F' (fun b => M0 b ∨ own Fs b) w) : ∃ Fs', Hp M0 F0 w0 (x' :: Ξ) Γ Fs' w := by
  cases Fs with
  | nil => exact h.ex.elim
  | cons F Fs2 =>
    obtain ⟨F', h1, h2⟩ := hc F h.ex.1
    have hsub : ∀ b, own (F' :: Fs2) b → own (F :: Fs2) b := fun b hb => own_cons.2 ((own_cons.1 hb).imp (h1 b) id)
    have hM : ∀ b, b < w.heap.size → (M0 b ∨ own (F' :: Fs2) b) → (M0 b ∨ own (F :: Fs2) b) := fun b _ hb => hb.imp id (hsub b)
    have hd := List.pairwise_cons.1 h.dis
    exact ⟨F' :: Fs2, ⟨x'.st _ _ _ _ _ h2 (fun _ _ _ => rfl) hM (Nat.le_refl _), h.ex.2.st (fun _ _ _ => rfl) hM (Nat.le_refl _)⟩, List.pairwise_cons.2 ⟨fun G hG b hb => hd.1 G hG b (h1 b hb), hd.2⟩,
      fun b hb => h.dis0 b (hsub b hb), fun b hb => h.lt b (hsub b hb), fun b hb => h.old b (hsub b hb), fun p hp => p.st _ _ _ _ (h.ga p hp) (fun _ _ _ => rfl) hM (Nat.le_refl _), h.up, h.m0, h.f0⟩
theorem Hp.conv {x x' : Xsn} (h : Hp M0 F0 w0 (x :: Ξ) Γ Fs w) (hc : ∀ F M w, x.p F M w → ∃ F', (∀ b, F' b → F b) ∧ x'.p F' M w) : ∃ Fs', Hp M0 F0 w0 (x' :: Ξ) Γ Fs' w := h.conv1 fun F => hc F _ w
end

section
variable {ro : Option Nat} {P : Program} {M0 F0 : Nat → Prop} {w0 : World} {n : Nm} {σ : List (Nat × Value)} {Ξ : List Xsn} {Γ : List Asn} {d : Nat} {ty : TypeId} {pos : String} {af : Array Edge}
variable {ops : Array Oper} {Q : Exit → Act → World → Prop} {S S' : Act → World → Prop}
theorem conv {x x' : Xsn} {i : Nat} {Ξ' : List Xsn} (hs : takeAll [i] Ξ = some ([x], Ξ')) (hc : ∀ F M w, x.p F M w → ∃ F', (∀ b, F' b → F b) ∧ x'.p F' M w) : ∀ a w, St M0 F0 w0 n σ Ξ Γ a w → St M0 F0 w0 n σ (x' :: Ξ') Γ a w := by
  rintro a w ⟨hsl, Fs, hh⟩
  obtain ⟨Gs, Hs, hp, h1, h2⟩ := hh.ex.takeAll hs
  have hh' : Hp M0 F0 w0 (x :: Ξ') Γ (Gs ++ Hs) w := hh.re (fun b => (own_perm hp b).symm) (perm_pairwise hp hh.dis) (h1.append h2) hh.ga
  exact ⟨hsl, hh'.conv hc⟩
theorem mit_tr {b r : Nat} {T K : List File} : ∀ F M w, (mit b r T K).p F M w → ∃ F', (∀ b, F' b → F b) ∧ (tr b T).p F' M w := by
  rintro F M w ⟨h0, h1, es, clock, since, seen, c0, h2, h3, h4, h5⟩
  exact ⟨fun x => x = b, fun x hx => (h1 x).2 (.inl hx), fun x => Iff.rfl, es, clock, h2, h4⟩
/-- an operation that yields nothing, on values -/
theorem o_locs {o : Op} {run : World → Result Unit} {Ξi Ξ' : List Xsn} {Γi : List Asn} {X : Type} {Ξo : X → List Xsn} {Γo : X → List Asn} {is : List Nat}
    (hc : ∀ M0 Fs w, Hp M0 (own Fs) w Ξi Γi Fs w → ∃ x Fs' w', run w = .ok () w' ∧ Hp M0 (own Fs) w (Ξo x) (Γo x) Fs' w') (hr : ∀ a, Slots n σ a → ∀ w w', run w = .ok () w' → (execOp a.eval ⟨none, o, ty, pos, af, none⟩).run P w = .ok .skip w') (hs : takeAll is Ξ = some (Ξi, Ξ')) (hg : Sub Γi Γ) :
    OpR P ⟨none, o, ty, pos, af, none⟩ (St M0 F0 w0 n σ Ξ Γ) (fun a w => ∃ x, St M0 F0 w0 n σ (Ξo x ++ Ξ') (Γo x ++ Γ) a w) :=
  OpR.of_skip rfl fun a w ⟨hsl, Fs, hh⟩ => by
    obtain ⟨Gs, Hs, hp, hin, hr'⟩ := hh.select hs hg.mem
    obtain ⟨x, Fs', w', h1, h2⟩ := hc _ Gs w hin
    exact ⟨w', hr a hsl w _ h1, x, hsl, _, hh.back hp hr' h2⟩

/-! the operations -/
theorem o_mmk {t : TypeId} (hd : Nat.blt d n.n = true) : OpR P ⟨some d, .makeMap t none, ty, pos, af, none⟩ (St M0 F0 w0 n σ Ξ Γ) (fun a w => ∃ b, St M0 F0 w0 n ((d, .map (some b)) :: σ) (tr b [] :: Ξ) Γ a w) :=
  OpR.of_run rfl fun a w ⟨hs, Fs, hh⟩ => by
    obtain ⟨Fs', h1⟩ := hh.allocO (.map #[] 0)
    obtain ⟨Fs2, h2⟩ := h1.conv (x' := tr w.heap.size []) (fun F M w h => ⟨F, fun _ h => h, h.1, #[], 0, h.2, MapIs.nil⟩)
    exact ⟨_, _, by simp [execOp, Instr.makeMap, newObj, Sem.run, Result.andThen], w.heap.size, hs.put hd, Fs2, h2⟩
theorem Hp.tr {i b : Nat} {T : List File} {w : World} {Fs} (h : Hp M0 F0 w0 Ξ Γ Fs w) (hi : At (tr b T) i Ξ) : ∃ es clock, w.heap[b]? = some (.map es clock) ∧ MapIs (fun b => M0 b ∨ own Fs b) w T es clock := by
  obtain ⟨F, _, hp⟩ := h.ex.at hi.get
  exact hp.2
theorem run_look {M : Nat → Prop} {w : World} {T : List File} {es : Array MapEntry} {clock b : Nat} {t kt et : TypeId} (ht : P.underlying t = some (.map kt et)) (hk : P.underlying kt = some .string) (hz : ∀ w, (zeroValue et).run P w = .ok (.slice none 0 0) w)
    (hb : w.heap[b]? = some (.map es clock)) (h : MapIs M w T es clock) (k : ByteArray) (ok : Bool) :
    ∃ y : Option Addr × Nat, (Instr.lookup t (.map (some b)) (.string k) ok).run P w = .ok (if ok then .tuple #[.slice y.1 (getL T k).length y.2, .bool (hasT T k)] else .slice y.1 (getL T k).length y.2) w ∧ (slA y.1 (getL T k)).p M w ∧ (nilA y).p M w := by
  have hkey : IsKey .string (.string k) := trivial
  rcases h.find k with ⟨h1, h2, _⟩ | ⟨j, e, l, h1, h2, h3, h4⟩
  · refine ⟨(none, 0), ?_, ?_, fun _ => rfl⟩
    · simp only [Instr.lookup, Sem.run_bind, run_underlying ht, Result.andThen, MapKept.run_getObj_map hb, run_checkKey hk hkey, run_findKey hk h1, hz, Sem.run_pure, Sem.run_map]
      simp [getL, hasT, h2]
    · intro j x hj
      simp [getL, h2] at hj
  · obtain ⟨y, hy, hy2, hy3⟩ := h3.val
    refine ⟨y, ?_, ?_, hy3⟩
    · simp only [Instr.lookup, Sem.run_bind, run_underlying ht, Result.andThen, MapKept.run_getObj_map hb, run_checkKey hk hkey, run_findKey hk h1, Sem.run_pure]
      simp [getL, hasT, h4, hy]
    · simpa [getL, h4] using hy2
theorem o_look {m k : Operand} {t kt et : TypeId} {b i : Nat} {kk : ByteArray} {T : List File} (ht : P.underlying t = some (.map kt et)) (hk : P.underlying kt = some .string) (hz : ∀ w, (zeroValue et).run P w = .ok (.slice none 0 0) w)
    (hm : ev σ m = some (.map (some b))) (hx : ev σ k = some (.string kk)) (hi : At (tr b T) i Ξ) (hd : Nat.blt d n.n = true) :
    OpR P ⟨some d, .lookup t m k true, ty, pos, af, none⟩ (St M0 F0 w0 n σ Ξ Γ) (fun a w => ∃ y : Option Addr × Nat, St M0 F0 w0 n ((d, .tuple [.slice y.1 (getL T kk).length y.2, .bool (hasT T kk)].toArray) :: σ) Ξ (slA y.1 (getL T kk) :: nilA y :: Γ) a w) :=
  OpR.of_run rfl fun a w ⟨hs, Fs, hh⟩ => by
    obtain ⟨es, clock, hb, h⟩ := hh.tr hi
    obtain ⟨y, h1, h2, h3⟩ := run_look ht hk hz hb h kk true
    refine ⟨_, w, by simp only [execOp, hs.ev hm, hs.ev hx, Sem.run_bind, h1, Result.andThen]; rfl, y, hs.put hd, Fs, { hh with ga := fun p hp => ?_ }⟩
    rcases List.mem_cons.1 hp with rfl | hp
    · exact h2
    · rcases List.mem_cons.1 hp with rfl | hp
      · exact h3
      · exact hh.ga p hp
theorem o_look1 {m k : Operand} {t kt et : TypeId} {b i : Nat} {kk : ByteArray} {T : List File} (ht : P.underlying t = some (.map kt et)) (hk : P.underlying kt = some .string) (hz : ∀ w, (zeroValue et).run P w = .ok (.slice none 0 0) w)
    (hm : ev σ m = some (.map (some b))) (hx : ev σ k = some (.string kk)) (hi : At (tr b T) i Ξ) (hd : Nat.blt d n.n = true) :
    OpR P ⟨some d, .lookup t m k false, ty, pos, af, none⟩ (St M0 F0 w0 n σ Ξ Γ) (fun a w => ∃ y : Option Addr × Nat, St M0 F0 w0 n ((d, .slice y.1 (getL T kk).length y.2) :: σ) Ξ (slA y.1 (getL T kk) :: nilA y :: Γ) a w) :=
  OpR.of_run rfl fun a w ⟨hs, Fs, hh⟩ => by
    obtain ⟨es, clock, hb, h⟩ := hh.tr hi
    obtain ⟨y, h1, h2, h3⟩ := run_look ht hk hz hb h kk false
    refine ⟨_, w, by simp only [execOp, hs.ev hm, hs.ev hx, Sem.run_bind, h1, Result.andThen]; rfl, y, hs.put hd, Fs, { hh with ga := fun p hp => ?_ }⟩
    rcases List.mem_cons.1 hp with rfl | hp
    · exact h2
    · rcases List.mem_cons.1 hp with rfl | hp
      · exact h3
      · exact hh.ga p hp
theorem o_lenm {m : Operand} {t kt et : TypeId} {b i : Nat} {T : List File} (ht : P.underlying t = some (.map kt et)) (hm : ev σ m = some (.map (some b))) (hi : At (tr b T) i Ξ) (hd : Nat.blt d n.n = true) :
    OpR P ⟨some d, .call ⟨.builtin .len, #[m], #[t]⟩, ty, pos, af, none⟩ (St M0 F0 w0 n σ Ξ Γ) (St M0 F0 w0 n ((d, .int .i64 (T.length : Int)) :: σ) Ξ Γ) :=
  OpR.of_run rfl fun a w ⟨hs, Fs, hh⟩ => by
    obtain ⟨es, clock, hb, h⟩ := hh.tr hi
    refine ⟨_, w, ?_, hs.put hd, Fs, hh⟩
    simp [execOp, resolve, invoke, builtin, hs.ev hm, Builtin.len_, run_underlying ht, MapKept.run_getObj_map hb, goInt, h.size, Result.andThen]
/-- the map's block becomes another one -/
theorem tr_set {M0 : Nat → Prop} {Fs : List (Nat → Prop)} {w : World} {b : Nat} {T T' : List File} {Γ : List Asn} (h : Hp M0 (own Fs) w [tr b T] Γ Fs w) {es' : Array MapEntry} {clock' : Nat} (hn : ∀ es clock, w.heap[b]? = some (.map es clock) → MapIs (fun b => M0 b ∨ own Fs b) w T es clock → MapIs (fun b => M0 b ∨ own Fs b) w T' es' clock') :
    Hp M0 (own Fs) w [tr b T'] [] Fs (ChangeMaps.setBlock w b (.map es' clock')) := by
  obtain ⟨F, rfl, hF, es, clock, hb, hm⟩ := h.one_of
  have hm' := hn es clock hb hm
  have hlt : b < w.heap.size := (Array.getElem?_eq_some_iff.1 hb).1
  have hsame := heap_set (o' := .map es' clock') hb
  have ho : ∀ x, own [F] x ↔ F x := fun x => by simp [own]
  refine h.oneG ⟨rfl, rfl, rfl, by simp [ChangeMaps.setBlock], fun x hx hne => hsame.2 x (fun e => hne ((hF x).2 e))⟩ (fun b h => .inl h) (fun x hx => by simp only [ChangeMaps.setBlock, Array.size_setIfInBounds]; exact (hF x).1 hx ▸ hlt) ⟨hF, es', clock', hsame.1, ?_⟩ (fun p hp => by cases hp)
  exact hm'.st (fun x hx hM => hsame.2 x (fun e => hM (.inr ((ho x).2 ((hF x).2 e))))) (fun _ _ h => h) (by simp [ChangeMaps.setBlock])
theorem loc_mupd {M0 : Nat → Prop} {Fs : List (Nat → Prop)} {w : World} {t kt et : TypeId} {b : Nat} {T : List File} (ht : P.underlying t = some (.map kt et)) (hk : P.underlying kt = some .string) (kk : ByteArray) (A : Option Addr) (c : Nat) (l : List ByteArray)
    (hh : Hp M0 (own Fs) w [tr b T] [slA A l, nilA (A, c)] Fs w) : ∃ (x : Unit) (Fs' : List (Nat → Prop)) (w' : World), (Instr.mapUpdate t (.map (some b)) (.string kk) (.slice A l.length c)).run P w = .ok () w' ∧ Hp M0 (own Fs) w [tr b (putT T kk l)] [] Fs' w' := by
  obtain ⟨F, hFs, hF, es, clock, hb, hm⟩ := hh.one_of
  have hkey : IsKey .string (.string kk) := trivial
  have hnew : ∀ born, EntOk (fun b => M0 b ∨ own Fs b) w { key := .string kk, val := .slice A l.length c, born := born } (kk, l) := fun born => ⟨rfl, (A, c), rfl, hh.ga _ (by simp), hh.ga _ (by simp)⟩
  rw [← hFs] at hm
  rcases hm.find kk with ⟨h1, h2, h3⟩ | ⟨j, e, l0, h1, h2, h3, h4⟩
  · refine ⟨(), Fs, ChangeMaps.setBlock w b (.map (es.push { key := .string kk, val := .slice A l.length c, born := clock }) (clock + 1)), ?_, tr_set hh fun es1 clock1 hb1 hm1 => ?_⟩
    · simp only [Instr.mapUpdate, Sem.run_bind, run_underlying ht, Result.andThen, MapKept.run_getObj_map hb, run_checkKey hk hkey, run_findKey hk h1, run_setObj_map _ hb]
      rfl
    · rw [hb] at hb1; cases hb1
      refine hm.put (stamped_push hm.stamped h3) (fun e he => ?_) ⟨_, by simp; exact .inr rfl, rfl⟩ (fun e he _ => by simp at he ⊢; exact .inl he)
      simp only [Array.toList_push, List.mem_append, List.mem_singleton] at he
      rcases he with he | rfl
      · exact .inl ⟨he, h3 e he⟩
      · exact .inr (hnew _)
  · have hej : es[j]? = some e := by simpa using h2
    refine ⟨(), Fs, ChangeMaps.setBlock w b (.map (es.modify j fun e => { e with key := .string kk, val := .slice A l.length c }) clock), ?_, tr_set hh fun es1 clock1 hb1 hm1 => ?_⟩
    · simp only [Instr.mapUpdate, Sem.run_bind, run_underlying ht, Result.andThen, MapKept.run_getObj_map hb, run_checkKey hk hkey, run_findKey hk h1, hej, Option.map_some, Option.getD_some, h3.key, run_keyThatStays hkey, run_setObj_map _ hb]
      rfl
    · rw [hb] at hb1; cases hb1
      have hst : Stamped (es.modify j fun e => { e with key := .string kk, val := .slice A l.length c }) clock := by
        refine stamped_modify hm.stamped j _ (fun _ _ => rfl) (fun e' he' hj => ?_)
        rw [hej] at hj; cases hj
        exact h3.key.symm
      refine hm.put hst (fun e' he => ?_) ⟨{ e with key := .string kk, val := .slice A l.length c }, ?_, rfl⟩ (fun e' he hne => ?_)
      · obtain ⟨i, e0, hi, ⟨rfl, rfl⟩ | ⟨hne, rfl⟩⟩ := mem_modify he
        · exact .inr (hnew _)
        · exact .inl ⟨List.mem_of_getElem? hi, fun ek => hne (nodup_at hm.stamped.2.2 hi h2 (ek.trans h3.key.symm))⟩
      · have := of_modify (i := j) (f := fun e => { e with key := .string kk, val := .slice A l.length c }) h2
        rwa [if_pos rfl] at this
      · obtain ⟨i, hi⟩ := List.mem_iff_getElem?.1 he
        have := of_modify (i := j) (f := fun e => { e with key := .string kk, val := .slice A l.length c }) hi
        rwa [if_neg (fun e' => by subst e'; rw [hi] at h2; cases h2; exact hne h3.key)] at this
theorem o_mupd {m k v : Operand} {t kt et : TypeId} {b i : Nat} {kk : ByteArray} {T : List File} {A : Option Addr} {c : Nat} {l : List ByteArray} {Ξ' : List Xsn} (ht : P.underlying t = some (.map kt et)) (hk : P.underlying kt = some .string)
    (hm : ev σ m = some (.map (some b))) (hx : ev σ k = some (.string kk)) (hv : ev σ v = some (.slice A l.length c)) (hs : takeAll [i] Ξ = some ([tr b T], Ξ')) (hg : Sub [slA A l, nilA (A, c)] Γ) :
    OpR P ⟨none, .mapUpdate t m k v, ty, pos, af, none⟩ (St M0 F0 w0 n σ Ξ Γ) (St M0 F0 w0 n σ (tr b (putT T kk l) :: Ξ') Γ) :=
  (o_locs (X := Unit) (Ξo := fun _ => [tr b (putT T kk l)]) (Γo := fun _ => []) (fun _ _ _ h => loc_mupd ht hk kk A c l h) (fun a hs w w' h => by simp only [execOp, hs.ev hm, hs.ev hx, hs.ev hv, Sem.run_bind, h, Result.andThen]; rfl) hs hg).mono fun a w ⟨_, h⟩ => h
theorem loc_mdel {M0 : Nat → Prop} {Fs : List (Nat → Prop)} {w : World} {t t2 kt et ty : TypeId} {b : Nat} {T : List File} (ht : P.underlying t = some (.map kt et)) (hk : P.underlying kt = some .string) (kk : ByteArray)
    (hh : Hp M0 (own Fs) w [tr b T] [] Fs w) : ∃ (x : Unit) (Fs' : List (Nat → Prop)) (w' : World), (Builtin.delete_ #[t, t2] ty #[.map (some b), .string kk]).run P w = .ok (.tuple #[]) w' ∧ Hp M0 (own Fs) w [tr b (delT T kk)] [] Fs' w' := by
  obtain ⟨F, hFs, hF, es, clock, hb, hm⟩ := hh.one_of
  have hkey : IsKey .string (.string kk) := trivial
  rw [← hFs] at hm
  rcases hm.find kk with ⟨h1, h2, h3⟩ | ⟨j, e, l0, h1, h2, h3, h4⟩
  · refine ⟨(), Fs, ChangeMaps.setBlock w b (.map es clock), ?_, tr_set hh fun es1 clock1 hb1 hm1 => ?_⟩
    · simp [Builtin.delete_, run_underlying ht, Result.andThen, MapKept.run_getObj_map hb, run_checkKey hk hkey, run_findKey hk h1, run_setObj_map _ hb, ChangeMaps.setBlock]
    · rw [hb] at hb1; cases hb1
      exact hm.del hm.stamped (fun e he => ⟨he, h3 e he⟩) (fun e he _ => he)
  · have hj : j < es.size := by simpa using (List.getElem?_eq_some_iff.1 h2).1
    refine ⟨(), Fs, ChangeMaps.setBlock w b (.map (es.eraseIdxIfInBounds j) clock), ?_, tr_set hh fun es1 clock1 hb1 hm1 => ?_⟩
    · simp [Builtin.delete_, run_underlying ht, Result.andThen, MapKept.run_getObj_map hb, run_checkKey hk hkey, run_findKey hk h1, run_setObj_map _ hb, ChangeMaps.setBlock]
    · rw [hb] at hb1; cases hb1
      refine hm.del (stamped_erase hm.stamped j) (fun e' he => ?_) (fun e' he hne => ?_)
      · obtain ⟨i, hne, hi⟩ := (mem_erase hj).1 he
        exact ⟨List.mem_of_getElem? hi, fun ek => hne (nodup_at hm.stamped.2.2 hi h2 (ek.trans h3.key.symm))⟩
      · obtain ⟨i, hi⟩ := List.mem_iff_getElem?.1 he
        exact (mem_erase hj).2 ⟨i, fun e' => by subst e'; rw [hi] at h2; cases h2; exact hne h3.key, hi⟩
theorem o_mdel {m k : Operand} {t t2 kt et : TypeId} {b i : Nat} {kk : ByteArray} {T : List File} {Ξ' : List Xsn} (ht : P.underlying t = some (.map kt et)) (hk : P.underlying kt = some .string)
    (hm : ev σ m = some (.map (some b))) (hx : ev σ k = some (.string kk)) (hs : takeAll [i] Ξ = some ([tr b T], Ξ')) (hd : Nat.blt d n.n = true) :
    OpR P ⟨some d, .call ⟨.builtin .delete, #[m, k], #[t, t2]⟩, ty, pos, af, none⟩ (St M0 F0 w0 n σ Ξ Γ) (St M0 F0 w0 n ((d, .tuple #[]) :: σ) (tr b (delT T kk) :: Ξ') Γ) :=
  (o_loc (run := fun w => (Builtin.delete_ #[t, t2] ty #[.map (some b), .string kk]).run P w) (X := Unit) (rv := fun _ => .tuple #[]) (Ξo := fun _ => [tr b (delT T kk)]) (Γo := fun _ => []) (Γi := []) (fun _ _ _ h => loc_mdel ht hk kk h)
    (fun a hs w v w' h => by simp [execOp, resolve, invoke, builtin, hs.ev hm, hs.ev hx, h, Result.andThen]) hs .d hd).mono fun a w ⟨_, h⟩ => h
theorem o_mrange {m : Operand} {t kt et : TypeId} {b i : Nat} {T : List File} {Ξ' : List Xsn} (ht : P.underlying t = some (.map kt et)) (hm : ev σ m = some (.map (some b))) (hs : takeAll [i] Ξ = some ([tr b T], Ξ')) (hd : Nat.blt d n.n = true) :
    OpR P ⟨some d, .range t m, ty, pos, af, none⟩ (St M0 F0 w0 n σ Ξ Γ) (fun a w => ∃ r, St M0 F0 w0 n ((d, .pointer (some ⟨r, 0, none⟩)) :: σ) (mit b r T [] :: Ξ') Γ a w) := by
  refine (o_loc (run := fun w => (Instr.range t (.map (some b))).run P w) (X := Nat) (rv := fun r => .pointer (some ⟨r, 0, none⟩)) (Ξo := fun r => [mit b r T []]) (Γo := fun _ => []) (Γi := []) ?_ (fun a hs w v w' h => by simp [execOp, hs.ev hm, h, Result.andThen]) hs .d hd).mono fun a w h => h
  intro M0 Fs w hh
  obtain ⟨F, rfl, hF, es, clock, hb, hmm⟩ := hh.one_of
  have hlt : b < w.heap.size := (Array.getElem?_eq_some_iff.1 hb).1
  have ho : ∀ x, own [F] x ↔ F x := fun x => by simp [own]
  have hal := heap_alloc w (.mapIter (some b) clock #[] clock)
  refine ⟨w.heap.size, [fun x => x = b ∨ x = w.heap.size], _, run_range_map w t kt et b es clock ht hb, hh.oneG ⟨rfl, rfl, rfl, by simp, fun x hx _ => hal.2 x hx⟩ (fun x hx => ?_) (fun x hx => ?_) ⟨by omega, fun x => Iff.rfl, es, clock, clock, #[], clock, by rw [hal.2 b hlt, hb], hal.1, ?_, hmm.stamped.1, Nat.le_refl _, Nat.le_refl _, List.nodup_nil, (fun x hx => by cases hx), (fun e he => by simp), (fun x hx => by cases hx)⟩ (fun p hp => by cases hp)⟩
  · rcases hx with rfl | rfl
    · exact .inl ((hF _).2 rfl)
    · exact .inr (Nat.le_refl _)
  · rcases hx with rfl | rfl <;> simp <;> omega
  · refine hmm.st (fun x hx _ => hal.2 x hx) (fun x hx hM => ?_) (by simp)
    rcases hM with hM | hM
    · exact .inl hM
    · refine .inr ((ho x).2 ((hF x).2 ?_))
      have : x = b ∨ x = w.heap.size := by simpa [own] using hM
      omega
theorem contains_push (s : Array Nat) (v a : Nat) : (s.push v).contains a = (s.contains a || a == v) := by
  rw [Bool.eq_iff_iff]
  simp
theorem loc_nextS {M0 : Nat → Prop} {Fs : List (Nat → Prop)} {w : World} {ty : TypeId} {b r : Nat} {T K : List File} (hh : Hp M0 (own Fs) w [mit b r T K] [] Fs w) (hK : ∃ x ∈ T, x ∉ K) :
    ∃ (z : {z : File × (Option Addr × Nat) // z.1 ∈ T ∧ z.1 ∉ K}) (Fs' : List (Nat → Prop)) (w' : World), (Instr.next (.pointer (some ⟨r, 0, none⟩)) false ty).run P w = .ok (.tuple [.bool true, .string z.1.1.1, .slice z.1.2.1 z.1.1.2.length z.1.2.2].toArray) w' ∧
      Hp M0 (own Fs) w [mit b r T (K ++ [z.1.1])] [slA z.1.2.1 z.1.1.2, nilA z.1.2] Fs' w' := by
  obtain ⟨F, rfl, hbr, hF, es, clock, since, seen, c0, hb, hr, hm, hold, h1, h2, hKn, hKT, hseen, hlast⟩ := hh.one_of
  have ho : ∀ x, own [F] x ↔ F x := fun x => by simp [own]
  rcases run_next_at (P := P) w ty r b since c0 seen es clock hr hb hold h1 with ⟨h3, _⟩ | ⟨e, he, w1, hw1, hrun⟩
  · exfalso
    obtain ⟨x, hx, hxK⟩ := hK
    obtain ⟨e, he, hke⟩ := hm.cov x hx
    have hno : seen.contains e.born = false := by
      rw [← Bool.not_eq_true]
      intro hc
      obtain ⟨x', hx', hk'⟩ := (hseen e he).1 hc
      have := hm.so.key_eq (hKT x' hx') hx (key_inj (hk'.symm.trans hke))
      exact hxK (this ▸ hx')
    have : e ∈ (leftOf es seen).toList := by
      unfold leftOf
      rw [Array.toList_filter, List.mem_filter]
      exact ⟨he, by simpa using hno⟩
    have h4 : (leftOf es seen).toList.length = 0 := by simpa using h3
    rw [List.eq_nil_of_length_eq_zero h4] at this
    cases this
  · have he' : e ∈ es.toList ∧ seen.contains e.born = false := by
      unfold leftOf at he
      rw [Array.toList_filter, List.mem_filter] at he
      exact ⟨he.1, by simpa using he.2⟩
    obtain ⟨x, hx, hxe⟩ := hm.ent e he'.1
    obtain ⟨y, hy1, hy2, hy3⟩ := hxe.val
    have hxK : x ∉ K := fun hxK => by
      have := (hseen e he'.1).2 ⟨x, hxK, hxe.key⟩
      rw [he'.2] at this; cases this
    have hh1 : w1.heap = w.heap ∧ w1.os = w.os ∧ w1.tape = w.tape ∧ w1.output = w.output := by rcases hw1 with rfl | rfl <;> exact ⟨rfl, rfl, rfl, rfl⟩
    have hltr : r < w.heap.size := (Array.getElem?_eq_some_iff.1 hr).1
    have hr1 : w1.heap[r]? = some (.mapIter (some b) since seen c0) := by rw [hh1.1]; exact hr
    have hset := heap_set (o' := .mapIter (some b) since (seen.push e.born) clock) hr1
    have hsz : (ChangeMaps.setBlock w1 r (.mapIter (some b) since (seen.push e.born) clock)).heap.size = w.heap.size := by simp [ChangeMaps.setBlock, hh1.1]
    have hblk : ∀ x, x ≠ r → (ChangeMaps.setBlock w1 r (.mapIter (some b) since (seen.push e.born) clock)).heap[x]? = w.heap[x]? := fun x hx => (hset.2 x hx).trans (by rw [hh1.1])
    have hstM : ∀ x, x < w.heap.size → ¬ (M0 x ∨ own [F] x) → (ChangeMaps.setBlock w1 r (.mapIter (some b) since (seen.push e.born) clock)).heap[x]? = w.heap[x]? := fun x _ hM => hblk x fun e => hM (.inr ((ho x).2 ((hF x).2 (.inr e))))
    refine ⟨⟨(x, y), hx, hxK⟩, [F], ChangeMaps.setBlock w1 r (.mapIter (some b) since (seen.push e.born) clock), ?_, hh.oneG ⟨hh1.2.1, hh1.2.2.1, hh1.2.2.2, Nat.le_of_eq hsz.symm, fun x _ hn => hblk x fun e => hn ((hF x).2 (.inr e))⟩ (fun x h => .inl h) (fun x h => hsz ▸ hh.lt x ((ho x).2 h))
      ⟨hbr, hF, es, clock, since, seen.push e.born, clock, by rw [hblk b hbr, hb], hset.1, hm.st hstM (fun _ _ h => h) (Nat.le_of_eq hsz.symm), hold, h2, h2, ?_, ?_, ?_, ?_⟩ ?_⟩
    · rw [hrun, hxe.key, hy1]
    · exact List.nodup_append.2 ⟨hKn, by simp, fun a ha b hb e => hxK (by simp at hb; exact hb ▸ e ▸ ha)⟩
    · intro z hz
      rcases List.mem_append.1 hz with hz | hz
      · exact hKT z hz
      · rw [List.mem_singleton.1 hz]; exact hx
    · intro e2 he2
      rw [contains_push, Bool.or_eq_true, hseen e2 he2]
      constructor
      · rintro (⟨x', h, k⟩ | h)
        · exact ⟨x', List.mem_append.2 (.inl h), k⟩
        · obtain ⟨i, hi⟩ := List.mem_iff_getElem?.1 he2
          obtain ⟨j, hj⟩ := List.mem_iff_getElem?.1 he'.1
          have := nodup_at (f := (·.born)) hm.stamped.2.1 hi hj (by simpa using h)
          subst this
          rw [hi] at hj; cases hj
          exact ⟨x, by simp, hxe.key⟩
      · rintro ⟨x', h, k⟩
        rcases List.mem_append.1 h with h | h
        · exact .inl ⟨x', h, k⟩
        · rw [List.mem_singleton.1 h] at k
          obtain ⟨i, hi⟩ := List.mem_iff_getElem?.1 he2
          obtain ⟨j, hj⟩ := List.mem_iff_getElem?.1 he'.1
          have := nodup_at (f := (·.key)) hm.stamped.2.2 hi hj (k.trans hxe.key.symm)
          subst this
          rw [hi] at hj; cases hj
          exact .inr (by simp)
    · intro x' hx'
      rw [List.getLast?_concat] at hx'
      cases hx'
      exact ⟨rfl, e, he'.1, hxe.key, by simp⟩
    · intro p hp
      rcases List.mem_cons.1 hp with rfl | hp
      · exact (slA y.1 x.2).st _ _ _ _ hy2 hstM (fun _ _ h => h) (Nat.le_of_eq hsz.symm)
      · rw [List.mem_singleton.1 hp]
        exact (nilA y).st _ _ _ _ hy3 hstM (fun _ _ h => h) (Nat.le_of_eq hsz.symm)
theorem o_mnextS {it : Operand} {b r i : Nat} {T K : List File} {Ξ' : List Xsn} (hx : ev σ it = some (.pointer (some ⟨r, 0, none⟩))) (hs : takeAll [i] Ξ = some ([mit b r T K], Ξ')) (hK : ∃ x ∈ T, x ∉ K) (hd : Nat.blt d n.n = true) :
    OpR P ⟨some d, .next it false, ty, pos, af, none⟩ (St M0 F0 w0 n σ Ξ Γ) (fun a w => ∃ z : {z : File × (Option Addr × Nat) // z.1 ∈ T ∧ z.1 ∉ K},
      St M0 F0 w0 n ((d, .tuple [.bool true, .string z.1.1.1, .slice z.1.2.1 z.1.1.2.length z.1.2.2].toArray) :: σ) (mit b r T (K ++ [z.1.1]) :: Ξ') (slA z.1.2.1 z.1.1.2 :: nilA z.1.2 :: Γ) a w) :=
  (o_loc (run := fun w => (Instr.next (.pointer (some ⟨r, 0, none⟩)) false ty).run P w) (Γi := []) (X := {z : File × (Option Addr × Nat) // z.1 ∈ T ∧ z.1 ∉ K}) (rv := fun z => .tuple [.bool true, .string z.1.1.1, .slice z.1.2.1 z.1.1.2.length z.1.2.2].toArray)
    (Ξo := fun z => [mit b r T (K ++ [z.1.1])]) (Γo := fun z => [slA z.1.2.1 z.1.1.2, nilA z.1.2]) (fun _ _ _ h => loc_nextS h hK) (fun a hs w v w' h => by simp only [execOp, hs.ev hx, Sem.run_bind, h, Result.andThen]; rfl) hs .d hd).mono fun a w h => h
theorem o_mnextN {it : Operand} {b r i : Nat} {T K : List File} (hx : ev σ it = some (.pointer (some ⟨r, 0, none⟩))) (hi : At (mit b r T K) i Ξ) (hK : ¬ ∃ x ∈ T, x ∉ K) (hd : Nat.blt d n.n = true) :
    OpR P ⟨some d, .next it false, ty, pos, af, none⟩ (St M0 F0 w0 n σ Ξ Γ) (St M0 F0 w0 n ((d, .tuple [.bool false].toArray) :: σ) Ξ Γ) :=
  OpR.of_run rfl fun a w ⟨hs, Fs, hh⟩ => by
    obtain ⟨F, _, hbr, hF, es, clock, since, seen, c0, hb, hr, hm, hold, h1, h2, hKn, hKT, hseen, hlast⟩ := hh.ex.at hi.get
    refine ⟨_, w, ?_, hs.put hd, Fs, hh⟩
    rcases run_next_at (P := P) w ty r b since c0 seen es clock hr hb hold h1 with ⟨h3, hrun⟩ | ⟨e, he, w1, hw1, hrun⟩
    · simp only [execOp, hs.ev hx, Sem.run_bind, hrun, Result.andThen]; rfl
    · exfalso
      unfold leftOf at he
      rw [Array.toList_filter, List.mem_filter] at he
      obtain ⟨x, hx, hxe⟩ := hm.ent e he.1
      refine hK ⟨x, hx, fun hxK => ?_⟩
      have := (hseen e he.1).2 ⟨x, hxK, hxe.key⟩
      have h5 : seen.contains e.born = false := by simpa using he.2
      rw [this] at h5; cases h5
/-! what is known of one -/
theorem cpure {c : Code} {φ : Prop} (h : ∀ a w, S a w → φ) (k : φ → TrC ro P Q S c) : TrC ro P Q S c := fun a w hS => k (h a w hS) a w hS
theorem npure {e : Exit} {φ : Prop} (h : ∀ a w, S a w → φ) (k : φ → TrN Q e S) : TrN Q e S := fun a w hS => k (h a w hS) a w hS
theorem St.tr {i b : Nat} {T : List File} (hi : At (Sx.tr b T) i Ξ) : ∀ a w, St M0 F0 w0 n σ Ξ Γ a w → Sor T := fun a w ⟨_, Fs, hh⟩ => by
  obtain ⟨es, clock, _, h⟩ := hh.tr hi
  exact h.so
theorem St.mit {i b r : Nat} {T K : List File} (hi : At (Sx.mit b r T K) i Ξ) : ∀ a w, St M0 F0 w0 n σ Ξ Γ a w → Sor T ∧ K.Nodup ∧ ∀ x ∈ K, x ∈ T := fun a w ⟨_, Fs, hh⟩ => by
  obtain ⟨F, _, hbr, hF, es, clock, since, seen, c0, hb, hr, hm, hold, h1, h2, hKn, hKT, hseen, hlast⟩ := hh.ex.at hi.get
  exact ⟨hm.so, hKn, hKT⟩
end
theorem nodup_le {α : Type} [DecidableEq α] : ∀ (K T : List α), K.Nodup → (∀ x ∈ K, x ∈ T) → K.length ≤ T.length
  | [], T, _, _ => by simp
  | x :: K, T, hn, hs => by
    obtain ⟨h1, h2⟩ := List.nodup_cons.1 hn
    have hx := hs x (by simp)
    have := nodup_le K (T.erase x) h2 (fun y hy => (List.mem_erase_of_ne (fun e => h1 (by rw [← e]; exact hy))).2 (hs y (by simp [hy])))
    rw [List.length_erase_of_mem hx] at this
    have hpos := List.length_pos_of_mem hx
    simp only [List.length_cons]; omega
theorem nodup_sum {α : Type} [DecidableEq α] (f : α → Nat) : ∀ (K T : List α), K.Nodup → (∀ x ∈ K, x ∈ T) → (K.map f).sum ≤ (T.map f).sum
  | [], T, _, _ => by simp
  | x :: K, T, hn, hs => by
    obtain ⟨h1, h2⟩ := List.nodup_cons.1 hn
    have hx := hs x (by simp)
    have := nodup_sum f K (T.erase x) h2 (fun y hy => (List.mem_erase_of_ne (fun e => h1 (by rw [← e]; exact hy))).2 (hs y (by simp [hy])))
    have hp : T.Perm (x :: T.erase x) := List.perm_cons_erase hx
    have hq : (T.map f).sum = f x + ((T.erase x).map f).sum := by
      have := (hp.map f).sum_nat
      simpa using this
    simp only [List.map_cons, List.sum_cons]; omega
theorem nodup_lt {α : Type} [DecidableEq α] {K T : List α} (hn : K.Nodup) (hs : ∀ x ∈ K, x ∈ T) (hx : ∃ x ∈ T, x ∉ K) : K.length < T.length := by
  obtain ⟨x, h1, h2⟩ := hx
  have := nodup_le (x :: K) T (List.nodup_cons.2 ⟨h2, hn⟩) (fun y hy => by rcases List.mem_cons.1 hy with rfl | hy; exact h1; exact hs y hy)
  simp only [List.length_cons] at this
  omega
theorem perm_of_all {K T : List File} (hT : Sor T) (hn : K.Nodup) (hs : ∀ x ∈ K, x ∈ T) (hx : ¬ ∃ x ∈ T, x ∉ K) : K.Perm T :=
  (List.perm_ext_iff_of_nodup hn hT.nodup).2 fun x => ⟨hs x, fun h => Classical.byContradiction fun k => hx ⟨x, h, k⟩⟩
theorem eq_of_all {T U : List File} (hT : Sor T) (hU : Sor U) (hl : T.length = U.length) (h : ∀ x ∈ T, getT U x.1 = some x.2) : T = U := by
  have hs : ∀ x ∈ T, x ∈ U := fun x hx => (getT_some hU).1 (h x hx)
  refine sor_ext hT hU fun x => ⟨hs x, fun hx => Classical.byContradiction fun hn => ?_⟩
  have := nodup_lt hT.nodup hs ⟨x, hx, hn⟩
  omega
theorem ne_of_one {T U : List File} (hT : Sor T) {x : File} (hx : x ∈ T) (h : ¬ getT U x.1 = some x.2) : ¬ T = U := fun e => h (by subst e; exact (getT_some hT).2 hx)
end Go.Sx

end
section
set_option linter.unusedVariables false
set_option linter.unusedSimpArgs false
namespace Go.Sx
open Go Go.RowKit Go.MapKept
/-- a slice's length is no more than its room -/
def capA (c n : Nat) : Asn where
  p _ _ := n ≤ c
  st := fun _ _ _ _ h _ _ _ => h
section
variable {ro : Option Nat} {P : Program} {M0 F0 : Nat → Prop} {w0 : World} {n : Nm} {σ : List (Nat × Value)} {Ξ : List Xsn} {Γ : List Asn} {d : Nat} {ty : TypeId} {pos : String} {af : Array Edge}
variable {ops : Array Oper} {Q : Exit → Act → World → Prop} {S S' : Act → World → Prop}
theorem fixA {ef : List Nat} {TL : List (Nat × Nat × Nat × List Value)} {fuel : Nat} {L : List Nat} {v v' : Value} (e : v = v') (k : TrA ro P ops Q ef TL (St M0 F0 w0 n ((d, v') :: σ) Ξ Γ) fuel L) : TrA ro P ops Q ef TL (St M0 F0 w0 n ((d, v) :: σ) Ξ Γ) fuel L := e ▸ k
/-- a row is given up -/
theorem freezeN {α : Type} [Rp α] {e : TypeId} {A : Option Addr} {c : Nat} {l : List α} {i : Nat} {Ξ' : List Xsn} {a : Act} {w : World} (hi : takeAt i Ξ = some (row e A c l, Ξ')) (h : St M0 F0 w0 n σ Ξ Γ a w) : St M0 F0 w0 n σ Ξ' (slA A l :: nilA (A, c) :: capA c l.length :: Γ) a w := by
  have hcp : l.length ≤ c := by
    obtain ⟨hs, Fs, hh⟩ := h
    obtain ⟨F, Fs', h1, ⟨xs, ho, hF, hr⟩, h3⟩ := hh.ex.takeAt hi
    rcases ho.2 with ⟨hv, h0⟩ | ⟨g, cap, cur, hv, _, _, h2, _⟩
    · omega
    · injection hv with _ _ h; omega
  have hn : A = none → c = 0 := by
    obtain ⟨hs, Fs, hh⟩ := h
    obtain ⟨F, Fs', h1, ⟨xs, ho, hF, hr⟩, h3⟩ := hh.ex.takeAt hi
    rcases ho.2 with ⟨hv, _⟩ | ⟨g, cap, cur, hv, _⟩
    · injection hv with _ _ h; exact fun _ => h
    · injection hv with h _ _; intro e; rw [e] at h; cases h
  obtain ⟨hs, Fs, hh⟩ := freeze hi h
  refine ⟨hs, Fs, { hh with ga := fun p hp => ?_ }⟩
  rcases List.mem_cons.1 hp with rfl | hp
  · exact hh.ga _ (by simp)
  · rcases List.mem_cons.1 hp with rfl | hp
    · exact hn
    · rcases List.mem_cons.1 hp with rfl | hp
      · exact hcp
      · exact hh.ga p (by simp [hp])
theorem nilN {a : Act} {w : World} (h : St M0 F0 w0 n σ Ξ Γ a w) : St M0 F0 w0 n σ Ξ (slA (α := ByteArray) none [] :: nilA (none, 0) :: capA 0 0 :: Γ) a w := by
  obtain ⟨hs, Fs, hh⟩ := nilSl (α := ByteArray) h
  refine ⟨hs, Fs, { hh with ga := fun p hp => ?_ }⟩
  rcases List.mem_cons.1 hp with rfl | hp
  · exact hh.ga _ (by simp)
  · rcases List.mem_cons.1 hp with rfl | hp
    · exact fun _ => rfl
    · rcases List.mem_cons.1 hp with rfl | hp
      · exact Nat.le_refl 0
      · exact hh.ga p (by simp [hp])
theorem St.cap {c m i : Nat} (hi : At (capA c m) i Γ) : ∀ a w, St M0 F0 w0 n σ Ξ Γ a w → m ≤ c := fun a w ⟨_, Fs, hh⟩ => hh.ga _ (List.mem_of_getElem? hi.get)
theorem capQ {c m : Nat} (h : m ≤ c) {a : Act} {w : World} (hS : St M0 F0 w0 n σ Ξ Γ a w) : St M0 F0 w0 n σ Ξ (capA c m :: Γ) a w := by
  obtain ⟨hs, Fs, hh⟩ := hS
  refine ⟨hs, Fs, { hh with ga := fun p hp => ?_ }⟩
  rcases List.mem_cons.1 hp with rfl | hp
  · exact h
  · exact hh.ga p hp
theorem o_mdel0 {m k : Operand} {t t2 kt et : TypeId} {b i : Nat} {kk : ByteArray} {T : List File} {Ξ' : List Xsn} (ht : P.underlying t = some (.map kt et)) (hk : P.underlying kt = some .string)
    (hm : ev σ m = some (.map (some b))) (hx : ev σ k = some (.string kk)) (hs : takeAll [i] Ξ = some ([tr b T], Ξ')) :
    OpR P ⟨none, .call ⟨.builtin .delete, #[m, k], #[t, t2]⟩, ty, pos, af, none⟩ (St M0 F0 w0 n σ Ξ Γ) (St M0 F0 w0 n σ (tr b (delT T kk) :: Ξ') Γ) :=
  OpR.of_run rfl fun a w ⟨hsl, Fs, hh⟩ => by
    obtain ⟨Gs, Hs, hp, hin, hr'⟩ := hh.select (Γi := []) hs (fun p hp => by cases hp)
    obtain ⟨x, Fs', w', h1, h2⟩ := loc_mdel (t2 := t2) (ty := ty) ht hk kk hin
    exact ⟨.tuple #[], w', by simp [execOp, resolve, invoke, builtin, hsl.ev hm, hsl.ev hx, h1, Result.andThen], hsl, _, hh.back hp hr' h2⟩
theorem o_mupdN {m k v : Operand} {t kt et : TypeId} {b i : Nat} {kk : ByteArray} {T : List File} {Ξ' : List Xsn} (ht : P.underlying t = some (.map kt et)) (hk : P.underlying kt = some .string)
    (hm : ev σ m = some (.map (some b))) (hx : ev σ k = some (.string kk)) (hv : ev σ v = some (.slice none 0 0)) (hs : takeAll [i] Ξ = some ([tr b T], Ξ')) :
    OpR P ⟨none, .mapUpdate t m k v, ty, pos, af, none⟩ (St M0 F0 w0 n σ Ξ Γ) (St M0 F0 w0 n σ (tr b (putT T kk []) :: Ξ') Γ) := by
  have h := o_mupd (M0 := M0) (F0 := F0) (w0 := w0) (n := n) (Γ := slA (α := ByteArray) none [] :: nilA (none, 0) :: capA 0 0 :: Γ) (ty := ty) (pos := pos) (af := af) (A := none) (c := 0) (l := []) ht hk hm hx hv hs (.s .z (.s (.s .z) .d))
  exact fun K Q a w hS hK => h K Q a w (nilN hS) fun a' w' ⟨hs', Fs, hh⟩ => hK a' w' ⟨hs', Fs, { hh with ga := fun p hp => hh.ga p (by simp [hp]) }⟩
theorem o_mentry {it : Operand} {b r i : Nat} {T K : List File} {x : File} (hx : ev σ it = some (.pointer (some ⟨r, 0, none⟩))) (hi : At (mit b r T (K ++ [x])) i Ξ) (hd : Nat.blt d n.n = true) :
    OpR P ⟨some d, .entry it, ty, pos, af, none⟩ (St M0 F0 w0 n σ Ξ Γ) (fun a w => ∃ y : Option Addr × Nat, St M0 F0 w0 n ((d, .tuple [.string x.1, .slice y.1 x.2.length y.2].toArray) :: σ) Ξ (slA y.1 x.2 :: nilA y :: Γ) a w) :=
  OpR.of_run rfl fun a w ⟨hs, Fs, hh⟩ => by
    obtain ⟨F, _, hbr, hF, es, clock, since, seen, c0, hb, hr, hm, hold, h1, h2, hKn, hKT, hseen, hlast⟩ := hh.ex.at hi.get
    obtain ⟨rfl, e, he, hke, hbk⟩ := hlast x (List.getLast?_concat ..)
    obtain ⟨x', hx', hxe⟩ := hm.ent e he
    have : x' = x := hm.so.key_eq hx' (hKT x (by simp)) (key_inj (hxe.key.symm.trans hke))
    subst this
    obtain ⟨y, hy1, hy2, hy3⟩ := hxe.val
    have hf : es.find? (fun e' => e'.born == e.born) = some e := by rw [← Array.find?_toList]; exact find_born e es.toList hm.stamped.2.1 he
    have hrun : (Instr.entry (.pointer (some ⟨r, 0, none⟩))).run P w = .ok (.tuple #[e.key, e.val]) w := by
      simp only [Instr.entry, getObj, Sem.run_bind, Sem.run, hr, hb, Result.andThen, hbk, bne_self_eq_false, Bool.false_eq_true, if_false, hf]
      rfl
    refine ⟨_, w, by simp only [execOp, hs.ev hx, Sem.run_bind, hrun, Result.andThen, hxe.key, hy1]; rfl, y, hs.put hd, Fs, { hh with ga := fun p hp => ?_ }⟩
    rcases List.mem_cons.1 hp with rfl | hp
    · exact hy2
    · rcases List.mem_cons.1 hp with rfl | hp
      · exact hy3
      · exact hh.ga p hp
/-! a map that is known, entry by entry -/
theorem o_mmkx {t : TypeId} (hd : Nat.blt d n.n = true) : OpR P ⟨some d, .makeMap t none, ty, pos, af, none⟩ (St M0 F0 w0 n σ Ξ Γ) (fun a w => ∃ b, St M0 F0 w0 n ((d, .map (some b)) :: σ) (obj b (.map #[] 0) :: Ξ) Γ a w) :=
  OpR.of_run rfl fun a w ⟨hs, Fs, hh⟩ => by
    obtain ⟨Fs', h1⟩ := hh.allocO (.map #[] 0)
    exact ⟨_, _, by simp [execOp, Instr.makeMap, newObj, Sem.run, Result.andThen], w.heap.size, hs.put hd, Fs', h1⟩
theorem o_insx {m k v : Operand} {t kt et : TypeId} {b i : Nat} {kd : IntKind} {z : Int} {vv : Value} {es : List MapEntry} {clock : Nat} (ht : P.underlying t = some (.map kt et)) (hk : P.underlying kt = some (.int kd))
    (hm : ev σ m = some (.map (some b))) (hx : ev σ k = some (.int kd z)) (hv : ev σ v = some vv) (hf : Instr.findNow (.int kd) (.int kd z) es 0 = some none) (hi : At (obj b (.map es.toArray clock)) i Ξ) {Ξ' : List Xsn} (hs' : SetAt (obj b (.map (es ++ [({ key := .int kd z, val := vv, born := clock } : MapEntry)]).toArray (clock + 1))) i Ξ Ξ') :
    OpR P ⟨none, .insert t m k v, ty, pos, af, none⟩ (St M0 F0 w0 n σ Ξ Γ) (St M0 F0 w0 n σ Ξ' Γ) :=
  OpR.of_skip rfl fun a w ⟨hs, Fs, hh⟩ => by
    obtain ⟨rfl, _⟩ := hs'.eq
    have hb := hh.obj hi.get
    have hkey : IsKey (.int kd) (.int kd z) := rfl
    refine ⟨_, ?_, hs, Fs, hh.setObj hi.get _⟩
    simp only [execOp, hs.ev hm, hs.ev hx, hs.ev hv, Sem.run_bind, Instr.mapUpdate, run_underlying ht, Result.andThen, MapKept.run_getObj_map hb, run_checkKey hk hkey, run_findKey hk hf, run_setObj_map _ hb]
    simp [World.putObj]
theorem o_lookx {m k : Operand} {t kt et : TypeId} {b i j : Nat} {kd : IntKind} {z : Int} {vv : Value} {es : List MapEntry} {clock : Nat} (ht : P.underlying t = some (.map kt et)) (hk : P.underlying kt = some (.int kd))
    (hm : ev σ m = some (.map (some b))) (hx : ev σ k = some (.int kd z)) (hi : At (obj b (.map es.toArray clock)) i Ξ) (hf : Instr.findNow (.int kd) (.int kd z) es 0 = some (some (j, vv))) (hd : Nat.blt d n.n = true) :
    OpR P ⟨some d, .lookup t m k false, ty, pos, af, none⟩ (St M0 F0 w0 n σ Ξ Γ) (St M0 F0 w0 n ((d, vv) :: σ) Ξ Γ) :=
  OpR.of_run rfl fun a w ⟨hs, Fs, hh⟩ => by
    have hb := hh.obj hi.get
    have hkey : IsKey (.int kd) (.int kd z) := rfl
    refine ⟨_, w, ?_, hs.put hd, Fs, hh⟩
    simp only [execOp, hs.ev hm, hs.ev hx, Sem.run_bind, Instr.lookup, run_underlying ht, Result.andThen, MapKept.run_getObj_map hb, run_checkKey hk hkey, run_findKey hk hf, Sem.run_pure]
    simp
/-! the copy of a map -/
theorem equal_mapnil {w : World} (k : Nat) {t kt et : TypeId} {p : Option Nat} (ht : P.underlying t = some (.map kt et)) : (Op.equalIn (k + 1) t (.map p) (.map none)).run P w = .ok p.isNone w := by
  cases p <;> simp [Op.equalIn, run_underlying ht]
theorem p_mapnil {T : World → Prop} {x : Operand} {t t' kt et : TypeId} {b : Nat} (ht : P.underlying t = some (.map kt et)) (hx : ev σ x = some (.map (some b))) : Pu P n σ T ⟨some d, .binOp .eql t x (.const (.map none)) t', ty, pos, af, none⟩ (.bool false) :=
  fun a hs w _ => by
    have h1 : (Op.equal t (.map (some b)) (.map none)).run P w = .ok false w := equal_mapnil 9999 ht
    have h2 : a.eval (.const (.map none)) = .map none := rfl
    simp [execOp, hs.ev hx, h2, eqGuard_at_map, binOp, h1]
theorem p_mkif {T : World → Prop} {x : Operand} {t kt et : TypeId} {v : Value} (ht : P.underlying t = some (.map kt et)) (hx : ev σ x = some v) : Pu P n σ T ⟨some d, .makeInterface t x, ty, pos, af, none⟩ (.iface t v) :=
  fun a hs w _ => by simp [execOp, hs.ev hx, Instr.makeInterface, run_underlying ht]
theorem p_tas {T : World → Prop} {x : Operand} {t xt kt et : TypeId} {v : Value} (ht : P.underlying t = some (.map kt et)) (hx : ev σ x = some (.iface t v)) : Pu P n σ T ⟨some d, .typeAssert x xt t false, ty, pos, af, none⟩ v :=
  fun a hs w _ => by simp [execOp, hs.ev hx, Instr.typeAssert, run_underlying ht, Result.andThen]
theorem run_mclone {w : World} {r : Nat} {es : Array MapEntry} {clock : Nat} (t : TypeId) (hb : w.heap[r]? = some (.map es clock)) :
    (Extern.MapsClone.clone #[.iface t (.map (some r))]).run P w = .ok (.iface t (.map (some w.heap.size))) (w.alloc (.map es clock)) := by
  have e : Extern.MapsClone.clone #[.iface t (.map (some r))] = (getObj r >>= fun o => match o with
      | .map entries clock => (newObj (.map entries clock) >>= fun n => pure (.iface t (.map (some n))))
      | _ => stuck "maps.clone: a map expected") := rfl
  rw [e]
  simp [MapKept.run_getObj_map hb, Result.andThen, newObj, Sem.run]
theorem o_mclone {x : Operand} {f : FuncId} {fn : Func} {t : TypeId} {tys : Array TypeId} {b i : Nat} {T : List File} (hf : P.funcs[f]? = some fn) (hname : (fn.name == "runtime.NumGoroutine") = false)
    (hbd : fn.body.isNone = true) (hn : Extern.findNext fn = none) (he : Extern.find fn = some Extern.MapsClone.clone) (hx : ev σ x = some (.iface t (.map (some b)))) (hi : At (tr b T) i Ξ) (hd : Nat.blt d n.n = true) :
    OpR P ⟨some d, .call ⟨.value (.func f), #[x], tys⟩, ty, pos, af, none⟩ (St M0 F0 w0 n σ Ξ Γ) (fun a w => ∃ b', St M0 F0 w0 n ((d, .iface t (.map (some b'))) :: σ) (tr b' T :: Ξ) Γ a w) :=
  OpR.of_run rfl fun a w ⟨hs, Fs, hh⟩ => by
    obtain ⟨es, clock, hb, hm⟩ := hh.tr hi
    have hlt : b < w.heap.size := (Array.getElem?_eq_some_iff.1 hb).1
    obtain ⟨Fs', h1⟩ := hh.allocO (.map es clock)
    obtain ⟨es2, clock2, hb2, hm2⟩ := h1.tr (i := i + 1) (.s hi)
    rw [(heap_alloc w _).2 b hlt, hb] at hb2
    cases hb2
    obtain ⟨Fs2, h2⟩ := h1.conv1 (x' := tr w.heap.size T) (fun F h => ⟨F, fun _ h => h, h.1, es, clock, h.2, hm2⟩)
    refine ⟨_, _, ?_, w.heap.size, hs.put hd, Fs2, h2⟩
    have e1 : (#[x] : Array Operand).map a.eval = #[.iface t (.map (some b))] := by simp [hs.ev hx]
    have e2 := run_callFunc_extern hf hname hbd hn he #[.iface t (.map (some b))] w
    rw [run_mclone t hb] at e2
    simp only [Result.andThen] at e2
    simp only [execOp, resolve, Deferred.ofValue, Act.eval, invoke]
    simp [hs.ev hx, e2]
end
end Go.Sx

end
section
set_option linter.unusedVariables false
set_option linter.unusedSimpArgs false
namespace Go.Sx
open Go Go.RowKit

/-! Files and calls as data; what calls make of a tree. -/
instance instRpFile : Rp (ByteArray × List ByteArray) where
  Lay := Option Addr × Nat
  size := 2
  enc x y := [.string x.1, .slice y.1 x.2.length y.2]
  len _ _ := rfl
  one _ _ v hv := by
    simp only [List.mem_cons, List.mem_nil_iff, or_false] at hv
    rcases hv with rfl | rfl <;> rfl
  asn x y := [slA y.1 x.2, nilA y, capA y.2 x.2.length]
structure TOp where
  kind : Int
  name : ByteArray
  to : ByteArray
  l : List ByteArray
  deriving DecidableEq
instance instRpTOp : Rp TOp where
  Lay := Option Addr × Nat
  size := 4
  enc o y := [.int .i64 o.kind, .string o.name, .string o.to, .slice y.1 o.l.length y.2]
  len _ _ := rfl
  one _ _ v hv := by
    simp only [List.mem_cons, List.mem_nil_iff, or_false] at hv
    rcases hv with rfl | rfl | rfl | rfl <;> rfl
  asn o y := [slA y.1 o.l, nilA y]
def TOp.many (o : TOp) : Nat := o.name.size + o.to.size + o.l.length + sizes o.l
def omany (l : List TOp) : Nat := (l.map TOp.many).sum
def TOp.fit (o : TOp) : Prop := o.name.size ≤ 2000000 ∧ o.to.size ≤ 2000000 ∧ o.l.length ≤ 2000000 ∧ ∀ s ∈ o.l, s.size ≤ 2000000
def tAdd (T : List File) (k : ByteArray) : List File × Int := if nameOk k = false then (T, 20) else if hasT T k = true then (T, 21) else (putT T k [], 0)
def tRem (T : List File) (k : ByteArray) : List File × Int := if hasT T k = false then (T, 20) else if 0 < (getL T k).length then (T, 22) else (delT T k, 0)
def tMove (T : List File) (a b : ByteArray) : List File × Int := if hasT T a = false ∨ nameOk b = false then (T, 20) else if hasT T b = true then (T, 21) else (delT (putT T b (getL T a)) a, 0)
def tPut (T : List File) (k : ByteArray) (l : List ByteArray) : List File × Int := if hasT T k = false then (T, 20) else if l.all lineOk = false then (T, 1) else (putT T k l, 0)
/-- what the program's calls do -/
def doesT (T : List File) (o : TOp) : List File × Int :=
  if o.kind = 0 then tAdd T o.name else if o.kind = 1 then tRem T o.name else if o.kind = 2 then tMove T o.name o.to else if o.kind = 3 then tPut T o.name o.l else (T, 0)
/-- what the document's do -/
def rMove (T : List File) (a b : ByteArray) : List File × Int := if hasT T a = false ∨ nameOk b = false then (T, 20) else if hasT T b = true then (T, 21) else (putT (delT T a) b (getL T a), 0)
def doT (T : List File) (o : TOp) : List File × Int :=
  if o.kind = 0 then tAdd T o.name else if o.kind = 1 then tRem T o.name else if o.kind = 2 then rMove T o.name o.to else if o.kind = 3 then tPut T o.name o.l else (T, 0)
def madeT (l : List TOp) : List File := l.foldl (fun T o => (doT T o).1) []
theorem madeT_succ {l : List TOp} {k : Nat} (h : k < l.length) : madeT (l.take (k + 1)) = (doT (madeT (l.take k)) l[k]).1 := by
  unfold madeT
  rw [List.take_succ_eq_append_getElem h, List.foldl_append]; rfl
theorem move_eq {T : List File} (h : Sor T) (a b : ByteArray) : tMove T a b = rMove T a b := by
  unfold tMove rMove
  split
  · rfl
  · rename_i h1
    split
    · rfl
    · rename_i h2
      have hne : b ≠ a := fun e => by
        subst e
        exact h1 (.inl (by simpa using h2))
      rw [sor_ext ((h.put b _).del a) ((h.del a).put b _)]
      intro x
      simp only [mem_delT, mem_putT]
      constructor
      · rintro ⟨rfl | ⟨h3, h4⟩, h5⟩
        · exact .inl rfl
        · exact .inr ⟨⟨h3, h5⟩, h4⟩
      · rintro (rfl | ⟨⟨h3, h5⟩, h4⟩)
        · exact ⟨.inl rfl, hne⟩
        · exact ⟨.inr ⟨h3, h4⟩, h5⟩
theorem does_eq {T : List File} (h : Sor T) (o : TOp) : doesT T o = doT T o := by
  unfold doesT doT
  rw [move_eq h]
theorem tAdd_sor {T : List File} (h : Sor T) (k) : Sor (tAdd T k).1 := by
  unfold tAdd; split; exact h; split; exact h; exact h.put _ _
theorem tRem_sor {T : List File} (h : Sor T) (k) : Sor (tRem T k).1 := by
  unfold tRem; split; exact h; split; exact h; exact h.del _
theorem rMove_sor {T : List File} (h : Sor T) (a b) : Sor (rMove T a b).1 := by
  unfold rMove; split; exact h; split; exact h; exact (h.del _).put _ _
theorem tPut_sor {T : List File} (h : Sor T) (k l) : Sor (tPut T k l).1 := by
  unfold tPut; split; exact h; split; exact h; exact h.put _ _
theorem doT_sor {T : List File} (h : Sor T) (o : TOp) : Sor (doT T o).1 := by
  unfold doT; split; exact tAdd_sor h _; split; exact tRem_sor h _; split; exact rMove_sor h _ _; split; exact tPut_sor h _ _; exact h
/-- how large a tree may be -/
structure Tok (n m : Nat) (T : List File) : Prop where
  len : T.length ≤ n
  fit : ∀ x ∈ T, x.2.length ≤ m ∧ sizes x.2 ≤ m ∧ x.1.size ≤ m
theorem putT_len (T : List File) (k : ByteArray) (l : List ByteArray) : (putT T k l).length ≤ T.length + 1 := by
  unfold putT
  have h0 : (delT T k).length ≤ T.length := List.length_filter_le _ _
  have h3 : ∀ D : List File, (D.filter fun x => decide (kl x.1 k)).length + (D.filter fun x => decide (kl k x.1)).length ≤ D.length := by
    intro D
    induction D with
    | nil => simp
    | cons x D ih =>
      by_cases h1 : kl x.1 k
      · have h2 : ¬ kl k x.1 := fun h => kl_irrefl _ (kl_trans h1 h)
        simp only [List.filter_cons, h1, h2, decide_true, decide_false, if_true, if_false, List.length_cons]
        simp
        omega
      · by_cases h2 : kl k x.1
        · simp [List.filter_cons, h1, h2]; omega
        · simp [List.filter_cons, h1, h2]; omega
  have h5 := h3 (delT T k)
  rw [List.length_append, List.length_cons, ← Nat.add_assoc]
  exact Nat.succ_le_succ (Nat.le_trans h5 h0)
theorem sizes_mem1 {l : List ByteArray} {s : ByteArray} (h : s ∈ l) : s.size ≤ sizes l := by
  unfold sizes
  induction l with
  | nil => cases h
  | cons x l ih =>
    simp only [List.map_cons, List.sum_cons]
    rcases List.mem_cons.1 h with rfl | h
    · omega
    · have := ih h; omega
theorem Tok.get {n m : Nat} {T : List File} (h : Tok n m T) (k : ByteArray) : (getL T k).length ≤ m ∧ sizes (getL T k) ≤ m := by
  unfold getL getT
  cases e : T.find? (fun x => decide (x.1 = k)) with
  | none => simp [sizes]
  | some x => have := h.fit x (List.mem_of_find?_eq_some e); simpa using ⟨this.1, this.2.1⟩
theorem Tok.put {n m : Nat} {T : List File} (h : Tok n m T) {k : ByteArray} {l : List ByteArray} (hk : k.size ≤ m) (hl : l.length ≤ m) (hs : sizes l ≤ m) : Tok (n + 1) m (putT T k l) :=
  ⟨by have := putT_len T k l; have := h.len; omega, fun x hx => by
    rcases mem_putT.1 hx with rfl | ⟨h1, _⟩
    · exact ⟨hl, hs, hk⟩
    · exact h.fit x h1⟩
theorem Tok.del {n m : Nat} {T : List File} (h : Tok n m T) (k : ByteArray) : Tok n m (delT T k) :=
  ⟨Nat.le_trans (List.length_filter_le _ _) h.len, fun x hx => h.fit x (mem_delT.1 hx).1⟩
theorem Tok.mono {n m n' : Nat} {T : List File} (h : Tok n m T) (hn : n ≤ n') : Tok n' m T := ⟨Nat.le_trans h.len hn, h.fit⟩
theorem doT_tok {n m : Nat} {T : List File} (h : Tok n m T) (o : TOp) (ho : o.many ≤ m) : Tok (n + 1) m (doT T o).1 := by
  unfold TOp.many at ho
  have h1 := h.mono (Nat.le_succ n)
  unfold doT
  split
  · unfold tAdd; split; exact h1; split; exact h1; exact h.put (by omega) (by simp) (by simp [sizes])
  · split
    · unfold tRem; split; exact h1; split; exact h1; exact h1.del _
    · split
      · unfold rMove; split; exact h1; split; exact h1; have := h.get o.name; exact (h.del _).put (by omega) this.1 this.2
      · split
        · unfold tPut; split; exact h1; split; exact h1; exact h.put (by omega) (by omega) (by omega)
        · exact h1
theorem madeT_sor (l : List TOp) : Sor (madeT l) := by
  unfold madeT
  have : ∀ (l : List TOp) (T : List File), Sor T → Sor (l.foldl (fun T o => (doT T o).1) T) := by
    intro l
    induction l with
    | nil => exact fun T h => h
    | cons o l ih => exact fun T h => ih _ (doT_sor h o)
  exact this l [] Sor.nil
theorem madeT_tok {m : Nat} : ∀ {l : List TOp}, (∀ o ∈ l, o.many ≤ m) → Tok l.length m (madeT l) := by
  unfold madeT
  have : ∀ (l : List TOp) (T : List File) (n : Nat), (∀ o ∈ l, o.many ≤ m) → Tok n m T → Tok (n + l.length) m (l.foldl (fun T o => (doT T o).1) T) := by
    intro l
    induction l with
    | nil => exact fun T n _ h => h
    | cons o l ih =>
      intro T n ho h
      have := ih _ (n + 1) (fun o' h' => ho o' (by simp [h'])) (doT_tok h o (ho o (by simp)))
      simp only [List.length_cons]
      rw [show n + (l.length + 1) = n + 1 + l.length by omega]
      exact this
  intro l ho
  have := this l [] 0 ho ⟨by simp, fun x hx => by cases hx⟩
  simpa using this
theorem tAdd_len (T : List File) (k : ByteArray) : (tAdd T k).1.length ≤ T.length + 1 := by
  unfold tAdd; split; exact Nat.le_succ _; split; exact Nat.le_succ _; exact putT_len _ _ _
def fewO (l : List TOp) : Int := if l.length ≤ 80 ∧ omany l ≤ 8000 then 0 else (omany l : Int) + l.length
theorem TOp.fit_of {o : TOp} (h : o.many ≤ 2000000) : o.fit := by
  unfold TOp.many at h
  exact ⟨by omega, by omega, by omega, fun s hs => by have := sizes_mem1 hs; omega⟩
theorem omany_mem {l : List TOp} {o : TOp} (h : o ∈ l) : o.many ≤ omany l := by
  unfold omany
  induction l with
  | nil => cases h
  | cons x l ih =>
    simp only [List.map_cons, List.sum_cons]
    rcases List.mem_cons.1 h with rfl | h
    · omega
    · have := ih h; omega
/-! taken one by one -/
theorem getT_take {T : List File} {k : ByteArray} {j : Nat} (hj : j < T.length) (h : getT (T.take j) k = none) : getT (T.take (j + 1)) k = if T[j].1 = k then some T[j].2 else none := by
  have h' : ∀ x ∈ T.take j, x.1 ≠ k := getT_none.1 h
  rw [List.take_succ_eq_append_getElem hj]
  unfold getT
  rw [List.find?_append, List.find?_eq_none.2 (by simpa using h')]
  by_cases e : T[j].1 = k <;> simp [List.find?_cons, e]
theorem getT_at {T : List File} {k : ByteArray} {j : Nat} (hj : j < T.length) (h : getT (T.take j) k = none) (e : T[j].1 = k) : getT T k = some T[j].2 := by
  have h' : ∀ x ∈ T.take j, x.1 ≠ k := getT_none.1 h
  have e2 : T = T.take j ++ T[j] :: T.drop (j + 1) := by rw [← List.drop_eq_getElem_cons hj, List.take_append_drop]
  have e3 : ∀ (a : List File) (b : File) (c : List File), (∀ x ∈ a, x.1 ≠ k) → b.1 = k → getT (a ++ b :: c) k = some b.2 := by
    intro a b c h1 h2
    unfold getT
    rw [List.find?_append, List.find?_eq_none.2 (by simpa using h1)]
    simp [List.find?_cons, h2]
  have := e3 (T.take j) T[j] (T.drop (j + 1)) h' e
  rw [← e2] at this
  exact this
theorem delT_succ {T : List File} {k : ByteArray} {j : Nat} (hj : j < T.length) : delT (T.take (j + 1)) k = delT (T.take j) k ++ if T[j].1 = k then [] else [T[j]] := by
  unfold delT
  rw [List.take_succ_eq_append_getElem hj, List.filter_append]
  by_cases e : T[j].1 = k <;> simp [List.filter_cons, e]
theorem filt_succ {p : File → Bool} {D : List File} {j : Nat} (hj : j < D.length) : (D.take (j + 1)).filter p = (D.take j).filter p ++ if p D[j] = true then [D[j]] else [] := by
  rw [List.take_succ_eq_append_getElem hj, List.filter_append]
  by_cases e : p D[j] = true <;> simp [List.filter_cons, e]
end Go.Sx

end
section
set_option linter.unusedVariables false
set_option linter.unusedSimpArgs false
namespace Go.Sx
open Go Go.RowKit

/-! Laws on trees, as they stand in memory and in the document. -/
theorem getT_put {T : List File} (h : Sor T) (k k' : ByteArray) (l : List ByteArray) : getT (putT T k l) k' = if k' = k then some l else getT T k' := by
  apply Option.ext
  intro v
  rw [getT_some (h.put k l), mem_putT]
  by_cases e : k' = k
  · subst e
    rw [if_pos rfl]
    constructor
    · rintro (h1 | ⟨_, h2⟩)
      · injection h1 with _ h1; rw [h1]
      · exact absurd rfl h2
    · intro h1; injection h1 with h1; subst h1; exact .inl rfl
  · rw [if_neg e, getT_some h]
    constructor
    · rintro (h1 | ⟨h1, _⟩)
      · injection h1 with h1 _; exact absurd h1 e
      · exact h1
    · exact fun h1 => .inr ⟨h1, e⟩
theorem getT_del {T : List File} (h : Sor T) (k k' : ByteArray) : getT (delT T k) k' = if k' = k then none else getT T k' := by
  apply Option.ext
  intro v
  rw [getT_some (h.del k), mem_delT]
  by_cases e : k' = k
  · subst e
    rw [if_pos rfl]
    constructor
    · rintro ⟨_, h2⟩; exact absurd rfl h2
    · intro h1; cases h1
  · rw [if_neg e, getT_some h]
    exact ⟨fun h1 => h1.1, fun h1 => ⟨h1, e⟩⟩
theorem getT_ext {T U : List File} (hT : Sor T) (hU : Sor U) (h : ∀ k, getT T k = getT U k) : T = U :=
  sor_ext hT hU fun x => by
    have := h x.1
    rw [← getT_some (k := x.1) (l := x.2) hT, ← getT_some (k := x.1) (l := x.2) hU, this]
theorem hasT_no {T : List File} {k : ByteArray} (h : hasT T k = false) : getT T k = none := by
  unfold hasT at h
  cases e : getT T k with
  | none => rfl
  | some v => rw [e] at h; cases h
theorem hasT_yes {T : List File} {k : ByteArray} (h : hasT T k = true) : getT T k = some (getL T k) := by
  unfold hasT at h
  unfold getL
  cases e : getT T k with
  | none => rw [e] at h; cases h
  | some v => rfl
theorem tAdd_ok {M T1 : List File} {k : ByteArray} (h : (T1, (0 : Int)) = tAdd M k) : nameOk k = true ∧ hasT M k = false ∧ T1 = putT M k [] := by
  unfold tAdd at h
  split at h
  · injection h with _ h; cases h
  · rename_i h1
    split at h
    · injection h with _ h; cases h
    · rename_i h2
      injection h with h _
      exact ⟨by simpa using h1, by simpa using h2, h⟩
theorem tAdd_no {M T1 : List File} {k : ByteArray} {e : Int} (h : (T1, e) = tAdd M k) (he : ¬ e = 0) : T1 = M := by
  unfold tAdd at h
  split at h
  · injection h
  · split at h
    · injection h
    · injection h with _ h; exact absurd h he
theorem tRem_add {M : List File} {k : ByteArray} (hM : Sor M) (hh : hasT M k = false) : tRem (putT M k []) k = (M, 0) := by
  have h1 : getT (putT M k []) k = some [] := by rw [getT_put hM, if_pos rfl]
  have h2 : delT (putT M k []) k = M := getT_ext ((hM.put _ _).del _) hM fun u => by
    rw [getT_del (hM.put _ _), getT_put hM]
    by_cases e : u = k
    · subst e; rw [if_pos rfl, hasT_no hh]
    · rw [if_neg e, if_neg e]
  unfold tRem
  rw [if_neg (by simp [hasT, h1]), if_neg (by simp [getL, h1]), h2]
theorem tMove_ok {M T3 : List File} {a b : ByteArray} (h : (T3, (0 : Int)) = tMove M a b) : hasT M a = true ∧ nameOk b = true ∧ hasT M b = false ∧ T3 = delT (putT M b (getL M a)) a := by
  unfold tMove at h
  split at h
  · injection h with _ h; cases h
  · rename_i h1
    split at h
    · injection h with _ h; cases h
    · rename_i h2
      injection h with h _
      refine ⟨?_, ?_, by simpa using h2, h⟩
      · cases e : hasT M a with
        | true => rfl
        | false => exact absurd (.inl e) h1
      · cases e : nameOk b with
        | true => rfl
        | false => exact absurd (.inr e) h1
theorem tMove_no {M T3 : List File} {a b : ByteArray} {e : Int} (h : (T3, e) = tMove M a b) (he : ¬ e = 0) : T3 = M := by
  unfold tMove at h
  split at h
  · injection h
  · split at h
    · injection h
    · injection h with _ h; exact absurd h he
theorem moved_get {M : List File} {a b : ByteArray} (hM : Sor M) (ha : hasT M a = true) (hb : hasT M b = false) (u : ByteArray) : getT (delT (putT M b (getL M a)) a) u = if u = a then none else if u = b then some (getL M a) else getT M u := by
  rw [getT_del (hM.put _ _), getT_put hM]
theorem moved_ne {M : List File} {a b : ByteArray} (ha : hasT M a = true) (hb : hasT M b = false) : ¬ b = a := fun e => by
  subst e; rw [ha] at hb; cases hb
theorem move_back {M : List File} {a b : ByteArray} (hM : Sor M) (hn : nameOk a = true) (ha : hasT M a = true) (hb : hasT M b = false) : tMove (delT (putT M b (getL M a)) a) b a = (M, 0) := by
  have hS : Sor (delT (putT M b (getL M a)) a) := (hM.put _ _).del _
  have hne := moved_ne ha hb
  have h1 : getT (delT (putT M b (getL M a)) a) b = some (getL M a) := by rw [moved_get hM ha hb, if_neg hne, if_pos rfl]
  have h2 : getT (delT (putT M b (getL M a)) a) a = none := by rw [moved_get hM ha hb, if_pos rfl]
  have h3 : getL (delT (putT M b (getL M a)) a) b = getL M a := by rw [getL, h1]; rfl
  unfold tMove
  rw [if_neg (by simp [hasT, h1, hn]), if_neg (by simp [hasT, h2]), h3]
  have : delT (putT (delT (putT M b (getL M a)) a) a (getL M a)) b = M := getT_ext ((hS.put _ _).del _) hM fun u => by
    rw [getT_del (hS.put _ _), getT_put hS, moved_get hM ha hb]
    by_cases e : u = b
    · subst e; rw [if_pos rfl, hasT_no hb]
    · rw [if_neg e]
      by_cases e2 : u = a
      · subst e2; rw [if_pos rfl, hasT_yes ha]
      · rw [if_neg e2, if_neg e2, if_neg e]
  rw [this]
theorem moved_without {M : List File} {a b : ByteArray} (hM : Sor M) (ha : hasT M a = true) (hb : hasT M b = false) : delT (delT (putT M b (getL M a)) a) b = delT M a :=
  getT_ext (((hM.put _ _).del _).del _) (hM.del _) fun u => by
    rw [getT_del ((hM.put _ _).del _), moved_get hM ha hb, getT_del hM]
    by_cases e : u = b
    · subst e; rw [if_pos rfl, if_neg (moved_ne ha hb), hasT_no hb]
    · rw [if_neg e]
      by_cases e2 : u = a
      · rw [if_pos e2, if_pos e2]
      · rw [if_neg e2, if_neg e2, if_neg e]
/-- every name is one, and every line -/
def Good (T : List File) : Prop := ∀ x ∈ T, nameOk x.1 = true ∧ x.2.all lineOk = true
theorem Good.get {T : List File} (h : Good T) (k : ByteArray) : (getL T k).all lineOk = true := by
  unfold getL getT
  cases e : T.find? (fun x => decide (x.1 = k)) with
  | none => rfl
  | some x => simpa using (h x (List.mem_of_find?_eq_some e)).2
theorem Good.name {T : List File} (h : Good T) {k : ByteArray} (hk : hasT T k = true) : nameOk k = true := by
  obtain ⟨x, hx, rfl⟩ := hasT_iff.1 hk
  exact (h x hx).1
theorem Good.put {T : List File} (h : Good T) {k : ByteArray} {l : List ByteArray} (hk : nameOk k = true) (hl : l.all lineOk = true) : Good (putT T k l) := fun x hx => by
  rcases mem_putT.1 hx with rfl | ⟨h1, _⟩
  · exact ⟨hk, hl⟩
  · exact h x h1
theorem Good.del {T : List File} (h : Good T) (k : ByteArray) : Good (delT T k) := fun x hx => h x (mem_delT.1 hx).1
theorem doT_good {T : List File} (h : Good T) (o : TOp) : Good (doT T o).1 := by
  unfold doT
  split
  · unfold tAdd; split
    · exact h
    · rename_i h1; split
      · exact h
      · exact h.put (by simpa using h1) rfl
  · split
    · unfold tRem; split; exact h; split; exact h; exact h.del _
    · split
      · unfold rMove; split
        · exact h
        · rename_i h1; split
          · exact h
          · exact (h.del _).put (by
              cases e : nameOk o.to with
              | true => rfl
              | false => exact absurd (.inr e) h1) (h.get _)
      · split
        · unfold tPut; split
          · exact h
          · rename_i h1; split
            · exact h
            · rename_i h2
              exact h.put (h.name (by simpa using h1)) (by simpa using h2)
        · exact h
theorem madeT_good (l : List TOp) : Good (madeT l) := by
  unfold madeT
  have : ∀ (l : List TOp) (T : List File), Good T → Good (l.foldl (fun T o => (doT T o).1) T) := by
    intro l
    induction l with
    | nil => exact fun T h => h
    | cons o l ih => exact fun T h => ih _ (doT_good h o)
  exact this l [] fun x hx => by cases hx
end Go.Sx

end
section
set_option linter.unusedVariables false
set_option linter.unusedSimpArgs false
namespace Go.Sx
open Go Go.RowKit

/-! Texts that are built of pieces. -/
instance instRpByte : Rp UInt8 where
  Lay := Unit
  size := 1
  enc x _ := [.int .u8 (x.toNat : Int)]
  len _ _ := rfl
  one _ _ v hv := by
    simp only [List.mem_cons, List.mem_nil_iff, or_false] at hv
    subst hv; rfl
  asn _ _ := []
theorem rowE_bytes {M : Nat → Prop} {w : World} : ∀ {l : List UInt8} {xs : List Value}, RowE M w l xs → xs = Lib.byteCells l
  | _, _, .nil => rfl
  | _, _, .snoc y h _ => by
    rw [rowE_bytes h]; simp [Rp.enc, Lib.byteCells]
theorem bytes_rowE {M : Nat → Prop} {w : World} (l : List UInt8) : RowE M w l (Lib.byteCells l) := by
  have : ∀ (r : List UInt8), RowE M w r.reverse (Lib.byteCells r.reverse) := by
    intro r
    induction r with
    | nil => exact .nil
    | cons x r ih =>
      simp only [List.reverse_cons, Lib.byteCells, List.map_append, List.map_cons, List.map_nil]
      exact .snoc () ih (fun p hp => by cases hp)
  simpa using this l.reverse
theorem strCells_ofB (s : ByteArray) : Lib.strCells s = Lib.byteCells (ofB s) := rfl
theorem ofB_length (s : ByteArray) : (ofB s).length = s.size := Array.length_toList
section
variable {ro : Option Nat} {P : Program} {M0 F0 : Nat → Prop} {w0 : World} {n : Nm} {σ : List (Nat × Value)} {Ξ : List Xsn} {Γ : List Asn} {d : Nat} {ty : TypeId} {pos : String} {af : Array Edge}
variable {ops : Array Oper} {Q : Exit → Act → World → Prop} {S S' : Act → World → Prop}
theorem p_cat {T : World → Prop} {x y : Operand} {t t' : TypeId} {s u : ByteArray} (hx : ev σ x = some (.string s)) (hy : ev σ y = some (.string u)) (hb : s.size + u.size ≤ 9223372036854775807) : Pu P n σ T ⟨some d, .binOp .add t x y t', ty, pos, af, none⟩ (.string (s ++ u)) :=
  fun a hs w _ => by
    have h1 : ¬ ((s.size + u.size : Nat) : Int) > IntKind.i64.max := by
      have : IntKind.i64.max = 9223372036854775807 := rfl
      omega
    simp only [execOp, hs.ev hx, hs.ev hy, eqGuard_add, binOp, Op.stringOp, Sem.run_bind, Sem.run_pure, Result.andThen_ok]
    rw [if_neg h1]
    rfl
/-- append: a text's bytes -/
theorem loc_appS {t u e ty' : TypeId} (ht : P.underlying t = some (.slice e)) (hu : P.underlying u = some .string) (hinfo : (P.info? e).map (fun i => (i.zero, i.size, i.bytes)) = some (some (.int .u8 0), 1, 1))
    (A : Option Addr) (c : Nat) (l : List UInt8) (s : ByteArray) (hl : l.length + s.size ≤ 140737488355328) :
    Loc P (fun w => (Builtin.append_ #[t, u] ty' #[.slice A l.length c, .string s]).run P w) [row e A c l] [] {y : Option Addr × Nat // (l ++ ofB s = [] → A = none → y.1 = none)} (fun y => .slice y.1.1 (l ++ ofB s).length y.1.2) (fun y => [row e y.1.1 y.1.2 (l ++ ofB s)]) (fun _ => []) := by
  obtain ⟨i0, hi, hz0, hz1, hz2⟩ := info_parts hinfo
  intro M0 Fs w hh
  obtain ⟨F, rfl, xs, ho, hF, hr⟩ := hh.one_of
  have hxs := rowE_bytes hr
  subst hxs
  obtain ⟨v', w', h1, h2, h3, h5⟩ := Lib.run_append_own_string (P := P) w 0 t u ty' e i0 ht hu hi hz0 hz1 hz2 _ l.length _ ho s (by simp only [maxLen]; omega) hl (Nat.zero_le _)
  have hlen : (l ++ ofB s).length = l.length + s.size := by rw [List.length_append, ofB_length]
  obtain ⟨A', c2, rfl⟩ : ∃ A' c2, v' = .slice A' (l.length + s.size) c2 := by
    rcases h2.2 with ⟨rfl, h0⟩ | ⟨g, cap, cur, rfl, _⟩
    · exact ⟨none, 0, by rw [h0]⟩
    · exact ⟨_, cap, rfl⟩
  have h4 : (Value.slice A' (l.length + s.size) c2).ownBlock = (Value.slice A l.length c).ownBlock ∨ (Value.slice A' (l.length + s.size) c2).ownBlock = some w.heap.size := by
    rcases ho.2 with ⟨hv, hl0⟩ | ⟨g, cap, cur, hv, hbg, hg, hnc, hcm, hcs, htake⟩
    · rw [hv] at h1 h5 ⊢
      by_cases hm : s.size = 0
      · have := h5.2 ⟨rfl, hm⟩
        rw [this]; exact .inl rfl
      · have hr' := run_append_nil_string (P := P) w t u ty' e i0 (.int .u8 0) ht hu hi hz0 s (by omega) (by omega) (by rw [hz2]; omega)
        rw [h1] at hr'
        injection hr' with hr' _
        rw [hr']; exact .inr rfl
    · rw [hv] at h1 ⊢
      by_cases hroom : l.length + s.size ≤ cap
      · have hcs' : cur.size = cap := by have h1 : Rp.size UInt8 = 1 := rfl; rw [h1] at hcs; simpa using hcs
        have hr' := Lib.run_append_room_string (P := P) w t u ty' e i0 ht hu hi hz1 g l.length cap cur hg s hroom (by omega)
        rw [h1] at hr'
        injection hr' with hr' _
        rw [hr']; exact .inl rfl
      · have holds : ∀ j u, (Lib.byteCells l)[j]? = some u → w.cell? ((⟨g, 0, none⟩ : Addr).add j) = some u := ho.cells (g := g) (by rw [hv]; rfl)
        have hxl : (Lib.byteCells l).length = l.length := Lib.byteCells_length l
        have hr' := Lib.run_append_grow_string (P := P) w t u ty' e i0 (.int .u8 0) ht hu hi hz0 ⟨g, 0, none⟩ l.length cap (Lib.byteCells l) (by rw [hz1]; simpa using hxl) holds s (by omega) (by omega) (by rw [hz2]; exact growslice_fits (by omega) (by omega))
        rw [h1] at hr'
        injection hr' with hr' _
        rw [hr']; exact .inr rfl
  have hown : ∀ b, own [F] b ↔ F b := fun b => by simp [own]
  have hup : Upd F w w' := ⟨h3.os, h3.tape, h3.output, h3.size, fun b hb hn => h3.block b hb (fun e' => hn ((hF b).2 e'.symm))⟩
  have hF' : ∀ b, (Value.slice A' (l.length + s.size) c2).ownBlock = some b → F b ∨ w.heap.size ≤ b := by
    intro b hb
    rcases h4 with h | h
    · rw [h] at hb; exact .inl ((hF b).2 hb)
    · rw [h] at hb; cases hb; exact .inr (Nat.le_refl _)
  have hlt' : ∀ b, (Value.slice A' (l.length + s.size) c2).ownBlock = some b → b < w'.heap.size := by
    intro b hb
    rcases h2.2 with ⟨h, _⟩ | ⟨g, cap, cur, h, _, hg, _⟩
    · rw [h] at hb; simp [Value.ownBlock] at hb
    · rw [h] at hb; simp [Value.ownBlock] at hb; subst hb; exact (Array.getElem?_eq_some_iff.1 hg).1
  have hnil : l ++ ofB s = [] → A = none → A' = none := by
    intro e1 e2
    have hl1 := congrArg List.length e1
    rw [hlen, List.length_nil] at hl1
    have hl0 : l.length = 0 := by omega
    have hs0 : s.size = 0 := by omega
    have hc0 : c = 0 := by
      rcases ho.2 with ⟨hv, _⟩ | ⟨g, cap, cur, hv, _⟩
      · injection hv
      · rw [e2] at hv; injection hv with hv; cases hv
    have := h5.2 ⟨by rw [e2, hl0, hc0], hs0⟩
    injection this
  refine ⟨⟨(A', c2), hnil⟩, [fun b => (Value.slice A' (l.length + s.size) c2).ownBlock = some b], w', ?_, hh.one hup hF' hlt' ⟨Lib.byteCells l ++ Lib.strCells s, ?_, ?_, ?_⟩⟩
  · show (Builtin.append_ #[t, u] ty' #[.slice A l.length c, .string s]).run P w = _
    rw [h1, hlen]
  · rw [hlen]; exact h2
  · intro x; rw [hlen]
  · rw [strCells_ofB, show Lib.byteCells l ++ Lib.byteCells (ofB s) = Lib.byteCells (l ++ ofB s) by simp [Lib.byteCells]]
    exact bytes_rowE _
theorem o_appS {x y : Operand} {t u e : TypeId} {A : Option Addr} {c : Nat} {l : List UInt8} {s : ByteArray} {i : Nat} {Ξ' : List Xsn} (ht : P.underlying t = some (.slice e)) (hu : P.underlying u = some .string) (hinfo : (P.info? e).map (fun i => (i.zero, i.size, i.bytes)) = some (some (.int .u8 0), 1, 1))
    (hx : ev σ x = some (.slice A l.length c)) (hy : ev σ y = some (.string s)) (hl : l.length + s.size ≤ 140737488355328) (hs : takeAll [i] Ξ = some ([row e A c l], Ξ')) (hd : Nat.blt d n.n = true) :
    OpR P ⟨some d, .call ⟨.builtin .append, #[x, y], #[t, u]⟩, ty, pos, af, none⟩ (St M0 F0 w0 n σ Ξ Γ) (fun a w => ∃ q : {y : Option Addr × Nat // (l ++ ofB s = [] → A = none → y.1 = none)}, St M0 F0 w0 n ((d, .slice q.1.1 (l ++ ofB s).length q.1.2) :: σ) (row e q.1.1 q.1.2 (l ++ ofB s) :: Ξ') Γ a w) := by
  refine (o_loc (Γi := []) (loc_appS (P := P) (ty' := ty) ht hu hinfo A c l s hl) ?_ hs .d hd).mono fun a w h => h
  intro a hsl w v w' hr
  have h1 := hsl.ev hx
  have h2 := hsl.ev hy
  have hm : (#[x, y] : Array Operand).map a.eval = #[.slice A l.length c, .string s] := by simp [h1, h2]
  simp only [execOp, resolve, invoke, builtin, hm]
  simp [hr]
/-- the bytes, as a text: the row is given up -/
theorem loc_ustr {pt it ty' e : TypeId} (hp : P.underlying pt = some (.pointer e)) (hc : P.cellsOf e = 1) (g c : Nat) (l : List UInt8) (h0 : l ≠ []) (hl : l.length ≤ 140737488355328) :
    Loc P (fun w => (Builtin.unsafeString_ #[pt, it] ty' #[.pointer (some ⟨g, 0, none⟩), .int .i64 l.length]).run P w) [row e (some ⟨g, 0, none⟩) c l] [] Unit (fun _ => .string (toB l)) (fun _ => []) (fun _ => []) := by
  intro M0 Fs w hh
  obtain ⟨F, rfl, xs, ho, hF, hr⟩ := hh.one_of
  have hxs := rowE_bytes hr
  subst hxs
  rcases ho.2 with ⟨hv, _⟩ | ⟨g', cap, cur, hv, hbg, hg, hnc, hcm, hcs, htake⟩
  · injection hv with hv; cases hv
  · injection hv with hv _ _
    injection hv with hv
    injection hv with hv _ _
    subst hv
    have hcs' : cur.size = cap := by
      have h1 : Rp.size UInt8 = 1 := rfl
      rw [h1] at hcs; simpa using hcs
    have hrun := Lib.run_unsafeString_row w pt it ty' e hp hc g cur.size (by simp [World.shape?, hg]) l h0 (by omega) (by omega) (fun j x hx => ho.cells (g := g) rfl j (.int .u8 x.toNat) (by simp [Lib.byteCells, hx]))
    have hl0 : l.length ≠ 0 := by simpa using h0
    have hfr : ∀ k, k ≠ g → (w.freeze ⟨g, 0, none⟩ l.length).heap[k]? = w.heap[k]? := fun k hk => by
      unfold World.freeze
      rw [if_neg hl0]
      simp only [Array.getElem?_modify]
      rw [if_neg (fun e => hk e.symm)]
    have hsz : (w.freeze ⟨g, 0, none⟩ l.length).heap.size = w.heap.size := by
      unfold World.freeze
      rw [if_neg hl0]; simp
    have hos : (w.freeze ⟨g, 0, none⟩ l.length).os = w.os ∧ (w.freeze ⟨g, 0, none⟩ l.length).tape = w.tape ∧ (w.freeze ⟨g, 0, none⟩ l.length).output = w.output := by
      unfold World.freeze
      rw [if_neg hl0]; exact ⟨rfl, rfl, rfl⟩
    refine ⟨(), [], w.freeze ⟨g, 0, none⟩ l.length, hrun, trivial, .nil, fun b hb => absurd hb (own_nil b), fun b hb => absurd hb (own_nil b), fun b hb => absurd hb (own_nil b), (fun p hp => by cases hp), ⟨hos.1, hos.2.1, hos.2.2, Nat.le_of_eq hsz.symm, fun k _ hk => hfr k fun e => hk ?_⟩, hh.m0, hh.f0⟩
    subst e
    exact ⟨F, by simp, (hF k).2 rfl⟩
end
end Go.Sx

end
section
set_option linter.unusedVariables false
set_option linter.unusedSimpArgs false
namespace Go.Sx
open Go Go.RowKit
section
variable {ro : Option Nat} {P : Program} {M0 F0 : Nat → Prop} {w0 : World} {n : Nm} {σ : List (Nat × Value)} {Ξ : List Xsn} {Γ : List Asn} {d : Nat} {ty : TypeId} {pos : String} {af : Array Edge}
variable {ops : Array Oper} {Q : Exit → Act → World → Prop} {S S' : Act → World → Prop}
theorem p_ptrnil0 {T : World → Prop} {x y : Operand} {t e t' : TypeId} (ht : P.underlying t = some (.pointer e)) (hx : ev σ x = some (.pointer none)) (hy : ev σ y = some (.pointer none)) :
    Pu P n σ T ⟨some d, .binOp .eql t x y t', ty, pos, af, none⟩ (.bool true) := fun b hs w _ => by
  have h1 : ∀ k : Nat, (Op.equalIn (k + 1) t (.pointer none) (.pointer none)).run P w = .ok true w := fun k => by
    simp [Op.equalIn, run_underlying ht]
  have h2 : (Op.equal t (.pointer none) (.pointer none)).run P w = .ok true w := h1 9999
  simp [execOp, hs.ev hx, hs.ev hy, eqGuard_at_pointer, binOp, h2]
theorem p_ptrneS {T : World → Prop} {x y : Operand} {t e t' : TypeId} {j : TypeInfo} {a : Addr} (ht : P.underlying t = some (.pointer e)) (he : P.info? e = some j) (hx : ev σ x = some (.pointer (some a))) (hy : ev σ y = some (.pointer (some a))) :
    Pu P n σ T ⟨some d, .binOp .neq t x y t', ty, pos, af, none⟩ (.bool false) := fun b hs w _ => by
  simp [execOp, hs.ev hx, hs.ev hy, eqGuard_at_pointer, Lib.run_neq_ptr_same w a ht he]
theorem o_tou {x : Operand} {src dst t bt : TypeId} {j : TypeInfo} {i b : Nat} {cs : List Value} (hs : P.underlying src = some (.pointer t)) (hdt : P.underlying dst = some .unsafePointer) (ht : P.info? t = some j) (hj : j.size ≠ 0)
    (hx : ev σ x = some (.pointer (some ⟨b, 0, none⟩))) (hi : At (box b bt cs) i Ξ) (hl : 0 < cs.length) (hd : Nat.blt d n.n = true) :
    OpR P ⟨some d, .convert src dst x, ty, pos, af, none⟩ (St M0 F0 w0 n σ Ξ Γ) (St M0 F0 w0 n ((d, .pointer (some ⟨b, 0, none⟩)) :: σ) Ξ Γ) :=
  OpR.of_run rfl fun a w ⟨hsl, Fs, hh⟩ => by
    have hb := hh.cell hi.get
    have := Lib.run_to_unsafe (P := P) w (src := src) (dst := dst) (e := bt) (cells := cs.length) ⟨b, 0, none⟩ hs hdt ht hj (by simp [World.shape?, hb]) hl
    exact ⟨_, w, by simp [execOp, hsl.ev hx, this], hsl.put hd, Fs, hh⟩
theorem o_fromu {x : Operand} {src dst u bt : TypeId} {j : TypeInfo} {i b : Nat} {cs : List Value} (hs : P.underlying src = some .unsafePointer) (hdt : P.underlying dst = some (.pointer u)) (hu : P.info? u = some j)
    (hx : ev σ x = some (.pointer (some ⟨b, 0, none⟩))) (hi : At (box b bt cs) i Ξ) (hl : liesAt P P.depth bt (cs.length / P.cellsOf bt) 0 u 1 = true) (hd : Nat.blt d n.n = true) :
    OpR P ⟨some d, .convert src dst x, ty, pos, af, none⟩ (St M0 F0 w0 n σ Ξ Γ) (St M0 F0 w0 n ((d, .pointer (some ⟨b, 0, none⟩)) :: σ) Ξ Γ) :=
  OpR.of_run rfl fun a w ⟨hsl, Fs, hh⟩ => by
    have hb := hh.cell hi.get
    have := Lib.run_from_unsafe (P := P) w (src := src) (dst := dst) (e := bt) (cells := cs.length) ⟨b, 0, none⟩ hs hdt hu (by simp [World.shape?, hb]) hl
    exact ⟨_, w, by simp [execOp, hsl.ev hx, this], hsl.put hd, Fs, hh⟩
theorem p_noesc {T : World → Prop} {x : Operand} {f : FuncId} {fn : Func} {tys : Array TypeId} {v : Value} (hf : P.funcs[f]? = some fn) (hname : (fn.name == "runtime.NumGoroutine") = false)
    (hbd : fn.body.isNone = true) (hn : Extern.findNext fn = none) (he : Extern.find fn = some Extern.AbiNoEscape.same) (hx : ev σ x = some v) : Pu P n σ T ⟨some d, .call ⟨.value (.func f), #[x], tys⟩, ty, pos, af, none⟩ v :=
  fun a hs w _ => by
    have e2 := run_callFunc_extern hf hname hbd hn he #[v] w
    rw [Lib.run_noEscape] at e2
    simp only [Result.andThen] at e2
    simp only [execOp, resolve, Deferred.ofValue, Act.eval, invoke]
    simp [hs.ev hx, e2]
theorem p_usd {T : World → Prop} {x : Operand} {t : TypeId} {A : Addr} {l c : Nat} (hc : c ≠ 0) (hx : ev σ x = some (.slice (some A) l c)) : Pu P n σ T ⟨some d, .call ⟨.builtin .unsafeSliceData, #[x], #[t]⟩, ty, pos, af, none⟩ (.pointer (some A)) :=
  fun a hs w _ => by simp [execOp, resolve, invoke, builtin, hs.ev hx, Lib.run_unsafeSliceData_row w #[t] ty A l c hc]
theorem p_usdn {T : World → Prop} {x : Operand} {t : TypeId} {l c : Nat} (hx : ev σ x = some (.slice none l c)) : Pu P n σ T ⟨some d, .call ⟨.builtin .unsafeSliceData, #[x], #[t]⟩, ty, pos, af, none⟩ (.pointer none) :=
  fun a hs w _ => by simp [execOp, resolve, invoke, builtin, hs.ev hx, Lib.run_unsafeSliceData_nil w #[t] ty l c]
theorem p_usn {T : World → Prop} {x y : Operand} {t u : TypeId} {p : Option Addr} (hx : ev σ x = some (.pointer p)) (hy : ev σ y = some (.int .i64 0)) : Pu P n σ T ⟨some d, .call ⟨.builtin .unsafeString, #[x, y], #[t, u]⟩, ty, pos, af, none⟩ (.string .empty) :=
  fun a hs w _ => by simp [execOp, resolve, invoke, builtin, hs.ev hx, hs.ev hy, Lib.run_unsafeString_none w t u ty p]
theorem o_ustr {x y : Operand} {pt it e : TypeId} {g c i : Nat} {l : List UInt8} {Ξ' : List Xsn} (hp : P.underlying pt = some (.pointer e)) (hc : P.cellsOf e = 1) (h0 : l ≠ []) (hl : l.length ≤ 140737488355328)
    (hx : ev σ x = some (.pointer (some ⟨g, 0, none⟩))) (hy : ev σ y = some (.int .i64 (l.length : Int))) (hs : takeAll [i] Ξ = some ([row e (some ⟨g, 0, none⟩) c l], Ξ')) (hd : Nat.blt d n.n = true) :
    OpR P ⟨some d, .call ⟨.builtin .unsafeString, #[x, y], #[pt, it]⟩, ty, pos, af, none⟩ (St M0 F0 w0 n σ Ξ Γ) (St M0 F0 w0 n ((d, .string (toB l)) :: σ) Ξ' Γ) :=
  (o_loc (Γi := []) (loc_ustr (P := P) (ty' := ty) (it := it) hp hc g c l h0 hl) (fun a hsl w v w' hr => by
    have h1 := hsl.ev hx
    have h2 := hsl.ev hy
    have hm : (#[x, y] : Array Operand).map a.eval = #[.pointer (some ⟨g, 0, none⟩), .int .i64 l.length] := by simp [h1, h2]
    simp only [execOp, resolve, invoke, builtin, hm]
    simp [hr]) hs .d hd).mono fun a w ⟨_, h⟩ => h
theorem St.rowcap {α : Type} [Rp α] {e : TypeId} {A : Option Addr} {c : Nat} {l : List α} {i : Nat} (hi : At (row e A c l) i Ξ) : ∀ a w, St M0 F0 w0 n σ Ξ Γ a w → l.length ≤ c := by
  rintro a w ⟨hs, Fs, hh⟩
  obtain ⟨F, hF, xs, ho, _, _⟩ := hh.ex.at hi.get
  rcases ho.2 with ⟨hv, h0⟩ | ⟨g, cap, cur, hv, _, _, h2, _⟩
  · omega
  · injection hv with _ _ h; omega
end
/-! what a tree's text is -/
def lineT (l : List ByteArray) : List UInt8 := l.flatMap fun s => ofB s ++ [10]
def fileT (x : File) : List UInt8 := ofB x.1 ++ [32] ++ Lib.decDigits x.2.length ++ [10] ++ lineT x.2
def textT (T : List File) : List UInt8 := T.flatMap fileT
theorem ofB_append (a b : ByteArray) : ofB (a ++ b) = ofB a ++ ofB b := by
  unfold ofB
  rw [ByteArray.data_append, Array.toList_append]
theorem ofB_toB (l : List UInt8) : ofB (toB l) = l := rfl
theorem flat_succ {α : Type} (f : α → List UInt8) {l : List α} {k : Nat} (h : k < l.length) : (l.take (k + 1)).flatMap f = (l.take k).flatMap f ++ f l[k] := by
  rw [List.take_succ_eq_append_getElem h, List.flatMap_append]; simp
theorem flat_le {α : Type} (f : α → List UInt8) (l : List α) (k : Nat) : ((l.take k).flatMap f).length ≤ (l.flatMap f).length := by
  have e : l.flatMap f = (l.take k).flatMap f ++ (l.drop k).flatMap f := by rw [← List.flatMap_append, List.take_append_drop]
  rw [e, List.length_append]; omega
end Go.Sx

end
section
set_option linter.unusedVariables false
set_option linter.unusedSimpArgs false
namespace Go.Sx
open Go Go.RowKit
/-- a call that only reads may read a row of one's own -/
theorem borrow {P : Program} {f : FuncId} {args : List Value} {α : Type} [Rp α] {e : TypeId} {A : Option Addr} {c : Nat} {l : List α} {Γi : List Asn} {X : Type} {rv : X → Value} {Ξo : X → List Xsn}
    (h : Con P f args [] (slA A l :: Γi) X rv Ξo (fun _ => [])) (hfree : ∀ x, ∀ z ∈ Ξo x, ∀ F M M' w, z.p F M w → z.p F M' w) :
    Con P f args [row e A c l] Γi X rv (fun x => row e A c l :: Ξo x) (fun _ => []) := by
  intro M0 Fs w hh
  obtain ⟨F, rfl, hrow⟩ := hh.one_of
  have ho : ∀ b, own [F] b ↔ F b := fun b => by simp [own]
  have hsl : Slots ⟨0, []⟩ [] { tmps := #[], defers := [] } := ⟨rfl, rfl, fun t v h => by cases h⟩
  obtain ⟨_, Fs', h1⟩ := freeze (i := 0) rfl (⟨hsl, [F], hh⟩ : St M0 (own [F]) w ⟨0, []⟩ [] [row e A c l] Γi { tmps := #[], defers := [] } w)
  have hnil : Fs' = [] := by
    cases Fs' with
    | nil => rfl
    | cons G Gs => exact h1.ex.elim
  subst hnil
  have hin : Hp M0 (own []) w [] (slA A l :: Γi) [] w := ⟨trivial, .nil, fun b hb => absurd hb (own_nil b), fun b hb => absurd hb (own_nil b), fun b hb => absurd hb (own_nil b), h1.ga, Upd.refl _ _, h1.m0, fun b hb => absurd hb (own_nil b)⟩
  refine (h M0 [] w hin).mono ?_
  rintro en w' ⟨x, Gs, rfl, hout⟩
  have hnew : ∀ b, own Gs b → ¬ b < w.heap.size := fun b hb hl => own_nil b (hout.old b hb hl)
  have hblk : ∀ b, b < w.heap.size → w'.heap[b]? = w.heap[b]? := fun b hb => hout.up.block b hb (own_nil b)
  refine ⟨x, F :: Gs, rfl, ⟨?_, ?_⟩, List.pairwise_cons.2 ⟨fun G hG b hf hg => hnew b ⟨G, hG, hg⟩ (hh.lt b ((ho b).2 hf)), hout.dis⟩, ?_, ?_, ?_, (fun p hp => by cases hp), ⟨hout.up.os, hout.up.tape, hout.up.output, hout.up.size, fun b hb _ => hblk b hb⟩, hh.m0, hh.f0⟩
  · refine (row e A c l).st _ _ _ _ _ hrow (fun b hb _ => hblk b hb) (fun b hb hM => ?_) hout.up.size
    rcases hM with hM | hM
    · exact .inl hM
    · rcases own_cons.1 hM with hM | hM
      · exact .inr ((ho b).2 hM)
      · exact absurd hb (hnew b hM)
  · have : ∀ {Ξ : List Xsn} {Gs : List (Nat → Prop)} {M M' : Nat → Prop}, (∀ z ∈ Ξ, ∀ F M M' w, z.p F M w → z.p F M' w) → all2 M w' Ξ Gs → all2 M' w' Ξ Gs := by
      intro Ξ
      induction Ξ with
      | nil =>
        intro Gs M M' _ h
        cases Gs with
        | nil => trivial
        | cons _ _ => exact h.elim
      | cons z Ξ ih =>
        intro Gs M M' hz h
        cases Gs with
        | nil => exact h.elim
        | cons G Gs => exact ⟨hz z (by simp) _ _ _ _ h.1, ih (fun z' h' => hz z' (by simp [h'])) h.2⟩
    exact this (hfree x) hout.ex
  · intro b hb
    rcases own_cons.1 hb with hb | hb
    · exact hh.dis0 b ((ho b).2 hb)
    · intro hm; exact hnew b hb (hh.m0 b hm)
  · intro b hb
    rcases own_cons.1 hb with hb | hb
    · exact Nat.lt_of_lt_of_le (hh.lt b ((ho b).2 hb)) hout.up.size
    · exact hout.lt b hb
  · intro b hb hl
    rcases own_cons.1 hb with hb | hb
    · exact (ho b).2 hb
    · exact absurd hl (hnew b hb)
theorem row_free {e : TypeId} {A : Option Addr} {c : Nat} {l : List ByteArray} : ∀ F M M' w, (row e A c l).p F M w → (row e A c l).p F M' w := by
  rintro F M M' w ⟨xs, h1, h2, h3⟩
  have := rowE_strs h3
  subst this
  exact ⟨_, h1, h2, strs_rowE l⟩
end Go.Sx

end
section
set_option linter.unusedVariables false
set_option linter.unusedSimpArgs false
namespace Go.Sx
open Go Go.RowKit
section
variable {ro : Option Nat} {P : Program} {M0 F0 : Nat → Prop} {w0 : World} {n : Nm} {σ : List (Nat × Value)} {Ξ : List Xsn} {Γ : List Asn} {d : Nat} {ty : TypeId} {pos : String} {af : Array Edge}
variable {ops : Array Oper} {Q : Exit → Act → World → Prop} {S S' : Act → World → Prop}
theorem slen {A : Option Addr} {m m' c : Nat} (h : m = m') : Value.slice A m c = Value.slice A m' c := by rw [h]
theorem run_app0 {w : World} {t e ty' : TypeId} {i0 : TypeInfo} {A B : Option Addr} {k c c' : Nat} (ht : P.underlying t = some (.slice e)) (hi : P.info? e = some i0) (hc : k ≤ c) :
    (Builtin.append_ #[t, t] ty' #[.slice A k c, .slice B 0 c']).run P w = .ok (.slice A k c) w := by
  cases A <;> cases B <;> simp [Builtin.append_, run_underlying ht, sizeOf, typeInfo, hi, Builtin.lenOf, Builtin.firstCells, hc, loadCells, loadCellsFrom, storeCells]
/-- append of nothing -/
theorem p_app0 {T : World → Prop} {x y : Operand} {t e : TypeId} {A B : Option Addr} {k c c' : Nat} (ht : P.underlying t = some (.slice e)) (hi : ∃ i0, P.info? e = some i0) (hc : k ≤ c) (hx : ev σ x = some (.slice A k c)) (hy : ev σ y = some (.slice B 0 c')) :
    Pu P n σ T ⟨some d, .call ⟨.builtin .append, #[x, y], #[t, t]⟩, ty, pos, af, none⟩ (.slice A k c) := fun a hs w _ => by
  obtain ⟨i0, hi⟩ := hi
  have h1 := hs.ev hx
  have h2 := hs.ev hy
  have hm : (#[x, y] : Array Operand).map a.eval = #[.slice A k c, .slice B 0 c'] := by simp [h1, h2]
  simp only [execOp, resolve, invoke, builtin, hm]
  simp [run_app0 ht hi hc]
/-- append of data, whatever it is, onto one's own -/
theorem o_appX {α : Type} [Rp α] {x y : Operand} {t e : TypeId} {z : Value} {bytes : Nat} {A B : Option Addr} {c c' : Nat} {l m : List α} {i : Nat} {Ξ' : List Xsn}
    (ht : P.underlying t = some (.slice e)) (hinfo : (P.info? e).map (fun i => (i.zero, i.size, i.bytes)) = some (some z, Rp.size α, bytes)) (hzs : z.cells.size = Rp.size α) (hsz : 0 < Rp.size α) (hb0 : 0 < bytes)
    (hx : ev σ x = some (.slice A l.length c)) (hy : ev σ y = some (.slice B m.length c')) (hl : (l.length + m.length) * bytes ≤ 140737488355328) (hs : takeAll [i] Ξ = some ([row e A c l], Ξ')) (hg : Sub [slA B m] Γ) (hd : Nat.blt d n.n = true) :
    OpR P ⟨some d, .call ⟨.builtin .append, #[x, y], #[t, t]⟩, ty, pos, af, none⟩ (St M0 F0 w0 n σ Ξ Γ) (fun a w => ∃ q : Option Addr × Nat, St M0 F0 w0 n ((d, .slice q.1 (l ++ m).length q.2) :: σ) (row e q.1 q.2 (l ++ m) :: Ξ') Γ a w) := by
  by_cases hm : m = []
  · subst hm
    obtain ⟨i0, hi, _⟩ := info_parts hinfo
    intro K Q a w hS hK
    obtain ⟨hsl, Fs, hh⟩ := hS
    obtain ⟨Gs, Hs, hp, h1, h2⟩ := hh.ex.takeAll hs
    have hh' : Hp M0 F0 w0 (row e A c l :: Ξ') Γ (Gs ++ Hs) w := hh.re (fun b => (own_perm hp b).symm) (perm_pairwise hp hh.dis) (h1.append h2) hh.ga
    have hle : l.length ≤ c := rowLe (i := 0) At.z (⟨hsl, _, hh'⟩ : St M0 F0 w0 n σ (row e A c l :: Ξ') Γ a w)
    have := op (M0 := M0) (F0 := F0) (w0 := w0) (Ξ := row e A c l :: Ξ') (Γ := Γ) (p_app0 (P := P) (n := n) (σ := σ) (T := Any) (d := d) (ty := ty) (pos := pos) (af := af) ht ⟨i0, hi⟩ hle hx hy) hd
    refine this K Q a w ⟨hsl, _, hh'⟩ fun a' w' h => hK a' w' ⟨(A, c), ?_⟩
    simpa using h
  · exact o_app ht hinfo hzs hsz hb0 hx hy hl (fun h => absurd h hm) hs hg hd
/-- append onto data that has no room -/
theorem o_appF {α : Type} [Rp α] {x y : Operand} {t e : TypeId} {z : Value} {bytes : Nat} {A B : Option Addr} {c c' : Nat} {l m : List α}
    (ht : P.underlying t = some (.slice e)) (hinfo : (P.info? e).map (fun i => (i.zero, i.size, i.bytes)) = some (some z, Rp.size α, bytes)) (hzs : z.cells.size = Rp.size α) (hsz : 0 < Rp.size α) (hb0 : 0 < bytes) (hc : c = l.length)
    (hx : ev σ x = some (.slice A l.length c)) (hy : ev σ y = some (.slice B m.length c')) (hl : (l.length + m.length) * bytes ≤ 140737488355328) (hm : m ≠ []) (hg : Sub [slA A l, slA B m] Γ) (hd : Nat.blt d n.n = true) :
    OpR P ⟨some d, .call ⟨.builtin .append, #[x, y], #[t, t]⟩, ty, pos, af, none⟩ (St M0 F0 w0 n σ Ξ Γ) (fun a w => ∃ q : Option Addr × Nat, St M0 F0 w0 n ((d, .slice q.1 (l ++ m).length q.2) :: σ) (row e q.1 q.2 (l ++ m) :: Ξ) Γ a w) := by
  cases A with
  | some A => exact o_appf ht hinfo hzs hsz hb0 hc hx hy hl (List.length_pos_iff.2 hm) hg hd
  | none =>
    intro K Q a w hS hK
    have hmem := hg.mem (slA none l) (by simp)
    have hl0 : l = [] := by
      obtain ⟨_, Fs, hh⟩ := hS
      have h1 := hh.ga _ hmem
      match l, h1 with
      | [], _ => rfl
      | x :: l, h1 =>
        obtain ⟨b, o, y, hA, _⟩ := h1 0 x rfl
        cases hA
    subst hl0
    subst hc
    have := o_app (M0 := M0) (F0 := F0) (w0 := w0) (n := n) (σ := σ) (Ξ := row (α := α) e none 0 [] :: Ξ) (Γ := Γ) (Ξ' := Ξ) (is := [0]) (ty := ty) (pos := pos) (af := af) (A := none) (c := 0) (l := []) (m := m) ht hinfo hzs hsz hb0 hx hy hl (fun h => absurd h hm) rfl (Sub.mk fun p hp => hg.mem p (by simp at hp; simp [hp])) hd
    exact this K Q a w (nilRow e hS) hK
end

theorem lpure {ro : Option Nat} {P : Program} {ops : Array Oper} {Q : Exit → Act → World → Prop} {S : Act → World → Prop} {l : List Oper} {φ : Prop} (h : ∀ a w, S a w → φ) (k : φ → TrL ro P ops Q S l) : TrL ro P ops Q S l := fun a w hS => k (h a w hS) a w hS
theorem take_eq_at {l m : List ByteArray} {k j : Nat} (hk : k + j < l.length) (hj : j < m.length) (h : (l.drop k).take m.length = m) : l[k + j] = m[j] := by
  have h1 : ((l.drop k).take m.length)[j]? = m[j]? := by rw [h]
  rw [List.getElem?_take_of_lt hj, List.getElem?_drop, List.getElem?_eq_getElem hk, List.getElem?_eq_getElem hj] at h1
  injection h1
theorem take_step {l m : List ByteArray} {k j : Nat} (hk : k + j < l.length) (hj : j < m.length) (h : (l.drop k).take j = m.take j) (e : l[k + j] = m[j]) : (l.drop k).take (j + 1) = m.take (j + 1) := by
  have hd : j < (l.drop k).length := by rw [List.length_drop]; omega
  rw [List.take_succ_eq_append_getElem hd, List.take_succ_eq_append_getElem hj, h, List.getElem_drop, e]
theorem slen2 {A : Option Addr} {m m' c c' : Nat} (h : m = m') (k : c = c') : Value.slice A m c = Value.slice A m' c' := by rw [h, k]
theorem emem (p q : Prop) : (p ∧ q) ∨ (p ∧ ¬ q) ∨ ¬ p := by
  by_cases p <;> by_cases q <;> simp [*]
theorem subP {α : Type} [Rp α] {M0 F0 : Nat → Prop} {w0 : World} {n : Nm} {σ : List (Nat × Value)} {Ξ : List Xsn} {Γ : List Asn} {A : Option Addr} {l : List α} {a : Act} {w : World} (k : Nat) (hg : In (slA A l) Γ) (hk : k ≤ l.length) (h : St M0 F0 w0 n σ Ξ Γ a w) :
    St M0 F0 w0 n σ Ξ (slA (if k = 0 then A else A.map (·.add (0 * Rp.size α))) (l.take k) :: Γ) a w := by
  obtain ⟨hs, Fs, hh⟩ := h
  refine ⟨hs, Fs, { hh with ga := fun p hp => ?_ }⟩
  rcases List.mem_cons.1 hp with rfl | hp
  · by_cases hk0 : k = 0
    · subst hk0
      intro j x hj
      simp at hj
    · have := slA_sub (c := l.length) (hh.ga _ hg.mem) (Nat.zero_le k) hk (Nat.le_refl _)
      rw [if_neg (by omega), List.drop_zero, Nat.sub_zero] at this
      rw [if_neg hk0]
      exact this
  · exact hh.ga p hp
/-! Prims and trees. -/
def standsB (l : List ByteArray) (z : Int) (part : List ByteArray) : Bool := decide (0 ≤ z) && decide (z ≤ (l.length : Int)) && decide ((part.length : Int) ≤ (l.length : Int) - z) && decide ((l.drop z.toNat).take part.length = part)
def splT (l : List ByteArray) (z : Int) (old new : List ByteArray) : List ByteArray := if standsB l z old = true then l.take z.toNat ++ new ++ l.drop (z.toNat + old.length) else []
def fitT (q : List File × Int) : List File × Int := (q.1, if q.2 = 0 then 0 else 31)
def hunkT (T : List File) (p : Prim) : List File × Int :=
  if hasT T p.name = false ∨ standsB (getL T p.name) p.pos p.old = false then (T, 31) else fitT (tPut T p.name (splT (getL T p.name) p.pos p.old p.new))
def applyT (T : List File) (p : Prim) : List File × Int :=
  if p.right = false then (T, 30) else if p.kind = 0 then hunkT T p else if p.kind = 3 then fitT (tMove T p.name p.to) else if p.kind = 1 then fitT (tAdd T p.name) else fitT (tRem T p.name)
/-- the document's way -/
def rApplyT (T : List File) (p : Prim) : List File × Int :=
  if p.right = false then (T, 30)
  else if p.kind = 0 then (if hasT T p.name = true ∧ standsB (getL T p.name) p.pos p.old = true then (putT T p.name (splT (getL T p.name) p.pos p.old p.new), 0) else (T, 31))
  else if p.kind = 1 then (if hasT T p.name = false then (putT T p.name [], 0) else (T, 31))
  else if p.kind = 2 then (if hasT T p.name = true ∧ (getL T p.name).length = 0 then (delT T p.name, 0) else (T, 31))
  else if p.kind = 3 then (if hasT T p.name = true ∧ hasT T p.to = false then (putT (delT T p.name) p.to (getL T p.name), 0) else (T, 31))
  else (T, 31)
theorem stands_cases (l : List ByteArray) (z : Int) (part : List ByteArray) : (¬ 0 ≤ z) ∨ (0 ≤ z ∧ ¬ z ≤ (l.length : Int)) ∨ (0 ≤ z ∧ z ≤ (l.length : Int) ∧ ¬ (part.length : Int) ≤ (l.length : Int) - z) ∨ ∃ k : Nat, z = (k : Int) ∧ k + part.length ≤ l.length := by
  by_cases h1 : 0 ≤ z
  · by_cases h2 : z ≤ (l.length : Int)
    · by_cases h3 : (part.length : Int) ≤ (l.length : Int) - z
      · exact .inr (.inr (.inr ⟨z.toNat, by omega, by omega⟩))
      · exact .inr (.inr (.inl ⟨h1, h2, h3⟩))
    · exact .inr (.inl ⟨h1, h2⟩)
  · exact .inl h1
theorem standsB_nat {l part : List ByteArray} {k : Nat} (h : k + part.length ≤ l.length) : standsB l (k : Int) part = decide ((l.drop k).take part.length = part) := by
  unfold standsB
  rw [decide_eq_true (by omega), decide_eq_true (by omega), decide_eq_true (by omega)]
  simp
theorem standsB_yes {l part : List ByteArray} {z : Int} (h : standsB l z part = true) : ∃ k : Nat, z = (k : Int) ∧ k + part.length ≤ l.length ∧ (l.drop k).take part.length = part := by
  unfold standsB at h
  simp only [Bool.and_eq_true, decide_eq_true_eq] at h
  obtain ⟨⟨⟨h1, h2⟩, h3⟩, h4⟩ := h
  exact ⟨z.toNat, by omega, by omega, h4⟩
theorem splT_len {l old new : List ByteArray} {z : Int} : (splT l z old new).length ≤ l.length + new.length := by
  unfold splT
  split
  · rename_i h
    obtain ⟨k, rfl, h1, _⟩ := standsB_yes h
    simp only [List.length_append, List.length_take, List.length_drop, Int.toNat_natCast]
    omega
  · simp
theorem right_kind {p : Prim} (h : p.right = true) : p.kind = 0 ∨ p.kind = 1 ∨ p.kind = 2 ∨ p.kind = 3 := by
  unfold Prim.right at h
  rw [Bool.and_eq_true] at h
  have h2 := h.2
  by_cases h0 : p.kind = 0
  · exact .inl h0
  · rw [if_neg h0] at h2
    by_cases h3 : p.kind = 3
    · exact .inr (.inr (.inr h3))
    · rw [if_neg h3] at h2
      simp only [Bool.and_eq_true, Bool.or_eq_true, decide_eq_true_eq] at h2
      rcases h2.2 with h | h
      · exact .inr (.inl h)
      · exact .inr (.inr (.inl h))
theorem right_name {p : Prim} (h : p.right = true) : nameOk p.name = true := by
  unfold Prim.right at h
  rw [Bool.and_eq_true] at h
  exact h.1
theorem right_new {p : Prim} (h : p.right = true) (h0 : p.kind = 0) : p.new.all lineOk = true := by
  unfold Prim.right at h
  rw [Bool.and_eq_true, if_pos h0] at h
  simp only [Bool.and_eq_true] at h
  exact h.2.1.2
theorem right_to {p : Prim} (h : p.right = true) (h0 : p.kind = 3) : nameOk p.to = true := by
  unfold Prim.right at h
  rw [Bool.and_eq_true, if_neg (by omega), if_pos h0] at h
  simp only [Bool.and_eq_true] at h
  exact h.2.1.2
theorem splT_ok {l old new : List ByteArray} {z : Int} (hl : l.all lineOk = true) (hn : new.all lineOk = true) : (splT l z old new).all lineOk = true := by
  unfold splT
  split
  · rw [List.all_eq_true] at hl hn ⊢
    intro x hx
    rcases List.mem_append.1 hx with hx | hx
    · rcases List.mem_append.1 hx with hx | hx
      · exact hl x (List.mem_of_mem_take hx)
      · exact hn x hx
    · exact hl x (List.mem_of_mem_drop hx)
  · rfl
theorem apply_eq {T : List File} (hS : Sor T) (hG : Good T) (p : Prim) : applyT T p = rApplyT T p := by
  unfold applyT rApplyT
  by_cases hr : p.right = false
  · rw [if_pos hr, if_pos hr]
  · have hr' : p.right = true := by simpa using hr
    rw [if_neg hr, if_neg hr]
    rcases right_kind hr' with h | h | h | h
    · rw [if_pos h, if_pos h]
      unfold hunkT
      by_cases h1 : hasT T p.name = true
      · by_cases h2 : standsB (getL T p.name) p.pos p.old = true
        · rw [if_neg (by simp [h1, h2]), if_pos ⟨h1, h2⟩]
          unfold tPut
          have h4 := splT_ok (z := p.pos) (old := p.old) (hG.get p.name) (right_new hr' h)
          rw [if_neg (by simp [h1]), if_neg (by simp only [h4]; simp)]
          rfl
        · rw [if_pos (.inr (by simpa using h2)), if_neg (by simp [h2])]
      · rw [if_pos (.inl (by simpa using h1)), if_neg (by simp [h1])]
    · rw [if_neg (by omega), if_neg (by omega), if_pos h, if_neg (by omega), if_pos h]
      unfold tAdd
      have hn := right_name hr'
      rw [if_neg (by simp [hn])]
      by_cases h1 : hasT T p.name = true
      · rw [if_pos h1, if_neg (by simp [h1])]; rfl
      · rw [if_neg h1, if_pos (by simpa using h1)]; rfl
    · rw [if_neg (by omega), if_neg (by omega), if_neg (by omega), if_neg (by omega), if_neg (by omega), if_pos h]
      unfold tRem
      by_cases h1 : hasT T p.name = true
      · rw [if_neg (by simp [h1])]
        by_cases h2 : 0 < (getL T p.name).length
        · rw [if_pos h2, if_neg (by omega)]; rfl
        · rw [if_neg h2, if_pos ⟨h1, by omega⟩]; rfl
      · rw [if_pos (by simpa using h1), if_neg (by simp [h1])]; rfl
    · rw [if_neg (by omega), if_pos h, if_neg (by omega), if_neg (by omega), if_neg (by omega), if_pos h, move_eq hS]
      unfold rMove
      have hn := right_to hr' h
      by_cases h1 : hasT T p.name = true
      · rw [if_neg (by simp [h1, hn])]
        by_cases h2 : hasT T p.to = true
        · rw [if_pos h2, if_neg (by simp [h2])]; rfl
        · rw [if_neg h2, if_pos ⟨h1, by simpa using h2⟩]; rfl
      · rw [if_pos (.inl (by simpa using h1)), if_neg (by simp [h1])]; rfl
theorem rApply_sor {T : List File} (hS : Sor T) (p : Prim) : Sor (rApplyT T p).1 := by
  unfold rApplyT
  repeat' split
  all_goals first | exact hS | exact hS.put _ _ | exact hS.del _ | exact (hS.del _).put _ _
theorem rApply_good {T : List File} (hG : Good T) (p : Prim) : Good (rApplyT T p).1 := by
  unfold rApplyT
  by_cases hr : p.right = false
  · rw [if_pos hr]; exact hG
  · have hr' : p.right = true := by simpa using hr
    have hn := right_name hr'
    rw [if_neg hr]
    split
    · rename_i h
      split
      · exact hG.put hn (splT_ok (hG.get _) (right_new hr' h))
      · exact hG
    · split
      · split
        · exact hG.put hn rfl
        · exact hG
      · split
        · split
          · exact hG.del _
          · exact hG
        · split
          · rename_i h
            split
            · exact (hG.del _).put (right_to hr' h) (hG.get _)
            · exact hG
          · exact hG
end Go.Sx

end
section
set_option linter.unusedVariables false
set_option linter.unusedSimpArgs false
namespace Go.Sx
open Go Go.RowKit

/-! What undoes a prim, undoes it; how large trees grow. -/
theorem sortB_eq {l m : List ByteArray} (hp : l.Perm m) (hs : m.Pairwise fun a b => ofB a ≤ ofB b) : sortB l = m := by
  unfold sortB
  have e : (l.map ofB).mergeSort (fun x y => decide (x ≤ y)) = m.map ofB := by
    refine List.Perm.eq_of_pairwise (le := fun a b : List UInt8 => decide (a ≤ b) = true) (fun a b _ _ h1 h2 => List.le_antisymm (by simpa using h1) (by simpa using h2)) (List.pairwise_mergeSort ?_ ?_ _) ?_ ?_
    · intro a b c h1 h2
      simp only [decide_eq_true_eq] at *
      exact List.le_trans h1 h2
    · intro a b
      simp only [Bool.or_eq_true, decide_eq_true_eq]
      exact List.le_total a b
    · rw [List.pairwise_map]
      exact hs.imp fun {a b} hab => by simpa using hab
    · exact (List.mergeSort_perm _ _).trans (hp.map ofB)
  rw [e]
  simp [Function.comp_def, toB_ofB]
theorem sortB_names (p : Prim) : sortB p.names = refNames p := by
  refine sortB_eq (refNames_perm p).symm ?_
  unfold refNames
  split
  · split
    · rename_i h
      rw [less_kl] at h
      have h' : kl p.name p.to := by simpa using h
      simp only [List.pairwise_cons, List.mem_cons, List.mem_nil_iff, or_false, forall_eq, List.not_mem_nil, false_imp_iff, implies_true, List.Pairwise.nil, and_true]
      exact List.le_of_lt h'
    · rename_i h
      rw [less_kl] at h
      have h' : ¬ kl p.name p.to := by simpa using h
      simp only [List.pairwise_cons, List.mem_cons, List.mem_nil_iff, or_false, forall_eq, List.not_mem_nil, false_imp_iff, implies_true, List.Pairwise.nil, and_true]
      exact List.not_lt.1 h'
  · simp
theorem flip_fit' {p : Prim} (h : p.fit) : p.flip.fit := by
  obtain ⟨h1, h2, h3, h4, h5, h6⟩ := h
  unfold Prim.flip
  repeat' split
  all_goals exact ⟨by assumption, by assumption, by assumption, by assumption, by assumption, by assumption⟩
theorem fitP {p : Prim} (h : p.many ≤ 2000000) : p.fit := by
  unfold Prim.many at h
  exact ⟨by omega, by omega, by omega, by omega, fun s hs => by have := sizes_mem1 hs; omega, fun s hs => by have := sizes_mem1 hs; omega⟩
def Lmax (m : Nat) (T : List File) : Prop := ∀ x ∈ T, x.2.length ≤ m
theorem Lmax.get {m : Nat} {T : List File} (h : Lmax m T) (u : ByteArray) : (getL T u).length ≤ m := by
  unfold getL getT
  cases e : T.find? (fun x => decide (x.1 = u)) with
  | none => simp
  | some x => simpa using h x (List.mem_of_find?_eq_some e)
theorem Lmax.mono {m m' : Nat} {T : List File} (h : Lmax m T) (hm : m ≤ m') : Lmax m' T := fun x hx => Nat.le_trans (h x hx) hm
theorem Lmax.put {m : Nat} {T : List File} (h : Lmax m T) {k : ByteArray} {l : List ByteArray} (hl : l.length ≤ m) : Lmax m (putT T k l) := fun x hx => by
  rcases mem_putT.1 hx with rfl | ⟨h1, _⟩
  · exact hl
  · exact h x h1
theorem Lmax.del {m : Nat} {T : List File} (h : Lmax m T) (k : ByteArray) : Lmax m (delT T k) := fun x hx => h x (mem_delT.1 hx).1
theorem rApply_lmax {m : Nat} {T : List File} (h : Lmax m T) (p : Prim) : Lmax (m + p.new.length) (rApplyT T p).1 := by
  have h1 := h.mono (Nat.le_add_right m p.new.length)
  unfold rApplyT
  repeat' split
  all_goals first
    | exact h1
    | exact h1.del _
    | exact h1.put (Nat.le_trans splT_len (by have := h.get p.name; omega))
    | exact h1.put (by simp)
    | exact (h1.del _).put (by have := h.get p.name; omega)
theorem rApply_len (T : List File) (p : Prim) : (rApplyT T p).1.length ≤ T.length + 1 := by
  have hd : ∀ k, (delT T k).length ≤ T.length := fun k => List.length_filter_le _ _
  unfold rApplyT
  repeat' split
  all_goals first
    | exact Nat.le_succ _
    | exact putT_len _ _ _
    | exact Nat.le_trans (hd _) (Nat.le_succ _)
    | exact Nat.le_trans (putT_len _ _ _) (Nat.succ_le_succ (hd _))
theorem apply_err {T T1 : List File} {p : Prim} {e : Int} (h : (T1, e) = applyT T p) (he : ¬ e = 0) (hS : Sor T) (hG : Good T) : T1 = T := by
  rw [apply_eq hS hG] at h
  unfold rApplyT at h
  repeat' split at h
  all_goals first
    | (injection h with h _; done)
    | (injection h with h h2; first | exact h | exact absurd h2 he)
theorem tAdd_rem {M : List File} {k : ByteArray} (hM : Sor M) (hn : nameOk k = true) (hh : getT M k = some []) : tAdd (delT M k) k = (M, 0) := by
  have h1 : getT (delT M k) k = none := by rw [getT_del hM, if_pos rfl]
  unfold tAdd
  rw [if_neg (by simp [hn]), if_neg (by simp [hasT, h1])]
  have : putT (delT M k) k [] = M := getT_ext ((hM.del _).put _ _) hM fun u => by
    rw [getT_put (hM.del _), getT_del hM]
    by_cases e : u = k
    · subst e; rw [if_pos rfl, hh]
    · rw [if_neg e, if_neg e]
  rw [this]
theorem splT_yes {l old new : List ByteArray} {k : Nat} (h : standsB l (k : Int) old = true) : splT l (k : Int) old new = l.take k ++ new ++ l.drop (k + old.length) := by unfold splT; rw [if_pos h]; rfl
theorem spl_back {l old new : List ByteArray} {z : Int} (h : standsB l z old = true) : standsB (splT l z old new) z new = true ∧ splT (splT l z old new) z new old = l := by
  obtain ⟨k, rfl, h1, h2⟩ := standsB_yes h
  have e1 : splT l (k : Int) old new = l.take k ++ new ++ l.drop (k + old.length) := by unfold splT; rw [if_pos h]; rfl
  have hk : (l.take k).length = k := by rw [List.length_take]; omega
  have hlen : (l.take k ++ new ++ l.drop (k + old.length)).length = k + new.length + (l.length - (k + old.length)) := by rw [List.length_append, List.length_append, hk, List.length_drop]
  have e2 : (l.take k ++ new ++ l.drop (k + old.length)).drop k = new ++ l.drop (k + old.length) := by
    rw [List.append_assoc, List.drop_append, hk, List.drop_of_length_le (by omega), Nat.sub_self]; rfl
  have e3 : (l.take k ++ new ++ l.drop (k + old.length)).take k = l.take k := by
    rw [List.append_assoc, List.take_append, hk, List.take_of_length_le (by omega), Nat.sub_self]; simp
  have e4 : (l.take k ++ new ++ l.drop (k + old.length)).drop (k + new.length) = l.drop (k + old.length) := by
    rw [← List.drop_drop, e2, List.drop_append, List.drop_of_length_le (Nat.le_refl _), Nat.sub_self]; rfl
  have hs : standsB (splT l (k : Int) old new) (k : Int) new = true := by
    rw [e1, standsB_nat (by rw [hlen]; omega), e2]
    simp
  refine ⟨hs, ?_⟩
  have e5 := splT_yes (new := old) hs
  rw [e5, e1, e3, e4]
  have e6 : l = l.take k ++ ((l.drop k).take old.length ++ (l.drop k).drop old.length) := by rw [List.take_append_drop, List.take_append_drop]
  rw [h2, List.drop_drop] at e6
  rw [List.append_assoc]
  exact e6.symm
theorem put_put {T : List File} (h : Sor T) (k : ByteArray) (l m : List ByteArray) : putT (putT T k l) k m = putT T k m :=
  getT_ext ((h.put _ _).put _ _) (h.put _ _) fun u => by
    rw [getT_put (h.put _ _), getT_put h, getT_put h]
    by_cases e : u = k <;> simp [e]
theorem put_same {T : List File} (h : Sor T) {k : ByteArray} {l : List ByteArray} (hk : getT T k = some l) : putT T k l = T :=
  getT_ext (h.put _ _) h fun u => by
    rw [getT_put h]
    by_cases e : u = k
    · subst e; rw [if_pos rfl, hk]
    · rw [if_neg e]
theorem apply_back {T T1 : List File} {p : Prim} (hS : Sor T) (hG : Good T) (h : (T1, (0 : Int)) = applyT T p) : applyT T1 p.flip = (T, 0) := by
  rw [apply_eq hS hG] at h
  have hS1 : Sor T1 := by have := rApply_sor hS p; rw [← h] at this; exact this
  have hG1 : Good T1 := by have := rApply_good hG p; rw [← h] at this; exact this
  rw [apply_eq hS1 hG1]
  unfold rApplyT at h ⊢
  rw [flip_right]
  by_cases hr : p.right = false
  · rw [if_pos hr] at h; injection h with _ h; cases h
  · have hr' : p.right = true := by simpa using hr
    rw [if_neg hr] at h ⊢
    rcases right_kind hr' with k0 | k1 | k2 | k3
    · rw [if_pos k0] at h
      have hk : p.flip.kind = 0 := (flip_kind p).1.2 k0
      rw [if_pos hk]
      split at h
      · rename_i hj
        injection h with h _
        obtain ⟨hb1, hb2⟩ := spl_back (new := p.new) hj.2
        have hf := flip0 k0
        have hg : getT T1 p.name = some (splT (getL T p.name) p.pos p.old p.new) := by rw [h, getT_put hS, if_pos rfl]
        have hn : p.flip.name = p.name ∧ p.flip.pos = p.pos ∧ p.flip.old = p.new ∧ p.flip.new = p.old := by rw [hf]; exact ⟨rfl, rfl, rfl, rfl⟩
        rw [hn.1, hn.2.1, hn.2.2.1, hn.2.2.2, show getL T1 p.name = splT (getL T p.name) p.pos p.old p.new by rw [getL, hg]; rfl, if_pos ⟨by rw [hasT, hg]; rfl, hb1⟩, hb2, h, put_put hS, put_same hS (hasT_yes hj.1)]
      · injection h with _ h; cases h
    · rw [if_neg (by omega), if_pos k1] at h
      have hf : p.flip = { p with kind := 2 } := by rw [Prim.flip, if_neg (by omega), if_pos (.inl k1), k1]; rfl
      rw [hf]
      split at h
      · rename_i hj
        injection h with h _
        have hg : getT T1 p.name = some [] := by rw [h, getT_put hS, if_pos rfl]
        rw [if_neg (show ¬ (2 : Int) = 0 by decide), if_neg (show ¬ (2 : Int) = 1 by decide), if_pos rfl, if_pos ⟨by rw [hasT, hg]; rfl, by rw [getL, hg]; rfl⟩]
        have := tRem_add hS hj
        unfold tRem at this
        rw [← h, if_neg (by rw [hasT, hg]; simp), if_neg (by rw [getL, hg]; simp)] at this
        exact this
      · injection h with _ h; cases h
    · rw [if_neg (by omega), if_neg (by omega), if_pos k2] at h
      have hf : p.flip = { p with kind := 1 } := by rw [Prim.flip, if_neg (by omega), if_pos (.inr k2), k2]; rfl
      rw [hf]
      split at h
      · rename_i hj
        injection h with h _
        have h0 : getT T p.name = some [] := by rw [hasT_yes hj.1, List.eq_nil_of_length_eq_zero hj.2]
        have hg : getT T1 p.name = none := by rw [h, getT_del hS, if_pos rfl]
        rw [if_neg (show ¬ (1 : Int) = 0 by decide), if_pos rfl, if_pos (by rw [hasT, hg]; rfl)]
        have := tAdd_rem hS (right_name hr') h0
        unfold tAdd at this
        rw [← h, if_neg (by simp [right_name hr']), if_neg (by rw [hasT, hg]; simp)] at this
        exact this
      · injection h with _ h; cases h
    · rw [if_neg (by omega), if_neg (by omega), if_neg (by omega), if_pos k3] at h
      have hf := flip3 k3
      rw [hf]
      split at h
      · rename_i hj
        injection h with h _
        have hd : T1 = delT (putT T p.to (getL T p.name)) p.name := by
          have := move_eq hS p.name p.to
          unfold tMove rMove at this
          rw [if_neg (by simp [hj.1, right_to hr' k3]), if_neg (by simp [hj.2]), if_neg (by simp [hj.1, right_to hr' k3]), if_neg (by simp [hj.2])] at this
          injection this with this _
          rw [h, ← this]
        have hb := move_back hS (right_name hr') hj.1 hj.2
        rw [← hd, move_eq hS1] at hb
        unfold rMove at hb
        have hto : getT T1 p.to = some (getL T p.name) := by rw [hd, moved_get hS hj.1 hj.2, if_neg (moved_ne hj.1 hj.2), if_pos rfl]
        have hna : getT T1 p.name = none := by rw [hd, moved_get hS hj.1 hj.2, if_pos rfl]
        rw [if_neg (by simp [hasT, hto, right_name hr']), if_neg (by simp [hasT, hna])] at hb
        rw [if_neg (by show ¬ p.kind = 0; omega), if_neg (by show ¬ p.kind = 1; omega), if_neg (by show ¬ p.kind = 2; omega), if_pos (by exact k3), if_pos ⟨by rw [hasT, hto]; rfl, by rw [hasT, hna]; rfl⟩]
        exact hb
      · injection h with _ h; cases h
end Go.Sx

end
section
set_option linter.unusedVariables false
set_option linter.unusedSimpArgs false
namespace Go.Sx
open Go Go.RowKit
def appliedT (M : List File) (ps : List Prim) : List File := ps.foldl (fun T p => (rApplyT T p).1) M
theorem appliedT_succ {M : List File} {ps : List Prim} {k : Nat} (h : k < ps.length) : appliedT M (ps.take (k + 1)) = (rApplyT (appliedT M (ps.take k)) ps[k]).1 := by
  unfold appliedT
  rw [List.take_succ_eq_append_getElem h, List.foldl_append]; rfl
def news (ps : List Prim) : Nat := (ps.map fun p => p.new.length).sum
theorem news_le (ps : List Prim) : news ps ≤ many ps := by
  unfold news many
  have : (ps.map fun p => p.new.length).sum ≤ (ps.map Prim.many).sum := by
    induction ps with
    | nil => simp
    | cons p ps ih =>
      simp only [List.map_cons, List.sum_cons]
      have : p.new.length ≤ p.many := by unfold Prim.many; omega
      omega
  omega
theorem news_take (ps : List Prim) (k : Nat) : news (ps.take k) ≤ news ps := by
  have e : news ps = news (ps.take k) + news (ps.drop k) := by
    unfold news
    rw [← List.sum_append, ← List.map_append, List.take_append_drop]
  omega
structure AppInv (m n : Nat) (T : List File) : Prop where
  so : Sor T
  good : Good T
  lmax : Lmax m T
  len : T.length ≤ n
theorem AppInv.apply {m n : Nat} {T : List File} (h : AppInv m n T) (p : Prim) : AppInv (m + p.new.length) (n + 1) (rApplyT T p).1 :=
  ⟨rApply_sor h.so p, rApply_good h.good p, rApply_lmax h.lmax p, Nat.le_trans (rApply_len T p) (Nat.succ_le_succ h.len)⟩
theorem AppInv.made (l : List TOp) : AppInv (omany l) l.length (madeT l) := by
  have ht : Tok l.length (omany l) (madeT l) := madeT_tok fun o ho => omany_mem ho
  exact ⟨madeT_sor l, madeT_good l, fun x hx => (ht.fit x hx).1, ht.len⟩
theorem AppInv.applied {m n : Nat} {M : List File} (h : AppInv m n M) : ∀ (ps : List Prim), AppInv (m + news ps) (n + ps.length) (appliedT M ps) := by
  intro ps
  induction ps generalizing M m n with
  | nil => exact h
  | cons p ps ih =>
    have := ih (h.apply p)
    have e1 : m + p.new.length + news ps = m + news (p :: ps) := by unfold news; simp only [List.map_cons, List.sum_cons]; omega
    have e2 : n + 1 + ps.length = n + (p :: ps).length := by simp only [List.length_cons]; omega
    rw [e1, e2] at this
    exact this
theorem flip_new (p : Prim) : p.flip.new.length ≤ p.old.length + p.new.length := by
  unfold Prim.flip
  repeat' split
  all_goals simp
theorem bne_self' (e : Int) : (!decide (e = e)) = false := by simp
theorem many_one (p : Prim) : many [p] = 1 + p.many := by simp [many]
end Go.Sx

end
