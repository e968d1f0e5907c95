/- OWN WORK: a part of the proof of a law of the seat YtdbiillompeclaaDoor: contracts. -/
import Derived.Test.YtdbiillompeclaaDoorXGC
import Derived.Test.YtdbiillompeclaaDoorXGB
import Derived.Lib.SlicesCompact
import Derived.Test.YtdbiillompeclaaDoorXGE
import Derived.Test.YtdbiillompeclaaDoorProg
import Derived.Test.YtdbiillompeclaaDoorXGF
section
set_option linter.unusedVariables false
set_option linter.unusedSimpArgs false
namespace Go.Sx
open Go Go.RowKit
/-! Names of rows: sorted, each once. -/
def compB (l : List ByteArray) : List ByteArray := (Lib.compact (l.map ofB)).map toB
open Go.Sort Go.Proofs in
theorem take_putCells2 (cur : Array Value) (cs pad : List (List UInt8)) (h : (cs ++ pad).length ≤ cur.size) : (putCells encStr 0 (cs ++ pad).toArray cur).toList.take cs.length = cs.map encStr := by
  have h1 := take_putCells cur (cs ++ pad) h
  have h2 := congrArg (List.take cs.length) h1
  rw [List.take_take, Nat.min_eq_left (by simp)] at h2
  rw [h2]
  simp
open Go.Sort in
theorem grow_nil (w : World) : grow w #[] = w := by
  cases w; simp [grow]
theorem compactUpTo_len (d : Array (List UInt8)) (m : Nat) : (Lib.compactUpTo d m).length ≤ m := by
  unfold Lib.compactUpTo
  rw [List.length_map]
  exact Nat.le_trans (List.length_filter_le _ _) (by simp)
theorem compB_len (l : List ByteArray) : (compB l).length ≤ l.length := by
  unfold compB Lib.compact
  rw [List.length_map]
  exact Nat.le_trans (compactUpTo_len _ _) (by simp)
open Go.Sort Go.Proofs in
theorem con_compact {P : Program} {f : FuncId} (e : TypeId) (A : Option Addr) (c : Nat) (l : List ByteArray) (hl : l.length ≤ 2000000)
    (h0 : ∀ w, Calls P f #[.slice none 0 0] w fun e w' => e = .returned (.slice none 0 0) ∧ w' = w)
    (h1 : ∀ (blk cap : Nat) (ss : List (List UInt8)) (w : World), Holds encStr w blk 0 ss.toArray → ss.length ≤ 9223372036854775807 → ss.length ≤ cap → Calls P f #[.slice (some ⟨blk, 0, none⟩) ss.length cap] w fun e w' =>
      e = .returned (.slice (some ⟨blk, 0, none⟩) (Lib.compact ss).length cap) ∧ ∃ q, w' = putRow encStr (Sort.ahead w q) blk 0 (Lib.compact ss ++ List.replicate (ss.length - (Lib.compact ss).length) []).toArray) :
    Con P f [.slice A l.length c] [row e A c l] [] Unit (fun _ => .slice A (compB l).length c) (fun _ => [row e A c (compB l)]) (fun _ => []) := by
  intro M0 Fs w hh
  obtain ⟨F, rfl⟩ : ∃ F, Fs = [F] := by
    match Fs, hh.ex with
    | [F], _ => exact ⟨F, rfl⟩
    | _ :: _ :: _, h => exact h.2.elim
  obtain ⟨⟨xs, ho, hF, hr⟩, _⟩ := hh.ex
  have hxs := rowE_strs hr
  subst hxs
  have henc : (l.map ofB).map encStr = l.map (fun b => Value.string b) := by simp [Function.comp_def, encStr, ofB]
  rcases ho.2 with ⟨hnil, h0l⟩ | ⟨g, cap, cur, hv, hbase, hb, h2, h3, h4, h5⟩
  · obtain ⟨rfl, hl', rfl⟩ : A = none ∧ l.length = 0 ∧ c = 0 := by simpa using hnil
    have hl0 : l = [] := List.eq_nil_of_length_eq_zero hl'
    subst hl0
    refine (h0 w).mono ?_
    rintro en w' ⟨rfl, rfl⟩
    refine ⟨(), [F], rfl, ?_⟩
    refine hh.one (Upd.refl _ _) (fun b h => .inl h) (fun b h => hh.lt b (by simp [own, h])) ?_
    exact ⟨[], ho, hF, RowE.nil⟩
  · obtain ⟨rfl, rfl⟩ : A = some ⟨g, 0, none⟩ ∧ c = cap := by simpa using hv
    have hH : Holds encStr w g 0 (l.map ofB).toArray := by
      refine holds_of_block hb ?_
      rw [List.length_map, henc]
      have : l.length * Rp.size ByteArray = l.length := Nat.mul_one _
      rw [this] at h5
      exact h5
    have hlt : g < w.heap.size := (Array.getElem?_eq_some_iff.1 hb).1
    have hc := h1 g c (l.map ofB) w hH (by simp; omega) (by simpa using h2)
    rw [List.length_map] at hc
    refine hc.mono ?_
    rintro en w' ⟨rfl, k, rfl⟩
    have hcl : (Lib.compact (l.map ofB)).length ≤ l.length := by have := compB_len l; unfold compB at this; rwa [List.length_map] at this
    have hcb : (compB l).length = (Lib.compact (l.map ofB)).length := by unfold compB; rw [List.length_map]
    refine ⟨(), [F], by rw [hcb], ?_⟩
    have hg := grownBy_sorted (w := w) (g := g) (n := k) (os := #[]) (Lib.compact (l.map ofB) ++ List.replicate (l.length - (Lib.compact (l.map ofB)).length) []).toArray
    rw [grow_nil] at hg
    have hhs := heap_sorted (n := k) (os := #[]) (Lib.compact (l.map ofB) ++ List.replicate (l.length - (Lib.compact (l.map ofB)).length) []).toArray hb
    rw [grow_nil] at hhs
    have hFg : ∀ b, F b ↔ g = b := fun b => by rw [hF]; simp [Value.ownBlock]
    refine hh.one ⟨hg.os, hg.tape, hg.output, hg.size, fun b hb hn => hg.block b hb (fun e' => hn ((hFg b).2 (by simpa using e'.symm)))⟩ (fun b h => .inl h) (fun b h => Nat.lt_of_lt_of_le (hh.lt b (by simp [own, h])) hg.size) ?_
    refine ⟨(compB l).map fun b => Value.string b, ?_, ?_, strs_rowE _⟩
    · have h4' : cur.size = c := by have : c * Rp.size ByteArray = c := Nat.mul_one _; rw [this] at h4; exact h4
      refine ⟨by simp [show Rp.size ByteArray = 1 from rfl], .inr ⟨g, c, _, rfl, hbase, hhs, by omega, h3, by simp [putCells, h4], ?_⟩⟩
      have ht := take_putCells2 cur (Lib.compact (l.map ofB)) (List.replicate (l.length - (Lib.compact (l.map ofB)).length) []) (by simp; omega)
      have e1 : (Lib.compact (l.map ofB)).map encStr = (compB l).map fun b => Value.string b := by simp [compB, Function.comp_def, encStr, toB]
      rw [← e1, ← ht, hcb]
      congr 1
      exact Nat.mul_one _
    · intro b
      rw [hF]; simp [Value.ownBlock]
/-! what the names are -/
theorem ble_lt {a b : List UInt8} (h : a ≤ b) (hne : a ≠ b) : a < b := by
  rcases List.le_iff_lt_or_eq.1 h with h | h
  · exact h
  · exact absurd h hne
theorem comp_spec (d : Array (List UInt8)) (hs : ∀ i j, i ≤ j → j < d.size → d[i]! ≤ d[j]!) : ∀ m, m ≤ d.size → (Lib.compactUpTo d m).Pairwise (· < ·) ∧ ∀ x, x ∈ Lib.compactUpTo d m ↔ ∃ j, j < m ∧ d[j]! = x := by
  intro m
  induction m with
  | zero => intro _; exact ⟨by simp [Lib.compactUpTo], fun x => by simp [Lib.compactUpTo]⟩
  | succ m ih =>
    intro hm
    obtain ⟨h1, h2⟩ := ih (by omega)
    rw [Lib.compactUpTo_succ]
    by_cases hk : Lib.keeps d m = true
    · rw [if_pos hk]
      refine ⟨List.pairwise_append.2 ⟨h1, by simp, fun a ha b hb => ?_⟩, fun x => ?_⟩
      · obtain ⟨j, hj, rfl⟩ := (h2 a).1 ha
        obtain rfl := List.mem_singleton.1 hb
        have hne : d[m]! ≠ d[m - 1]! := by
          unfold Lib.keeps at hk
          rw [decide_eq_true_eq] at hk
          rcases hk with hk | hk
          · omega
          · exact hk
        have h3 : d[j]! ≤ d[m - 1]! := hs _ _ (by omega) (by omega)
        have h4 : d[m - 1]! < d[m]! := ble_lt (hs _ _ (by omega) (by omega)) (fun e => hne e.symm)
        rcases List.le_iff_lt_or_eq.1 h3 with h5 | h5
        · exact List.lt_trans h5 h4
        · rw [h5]; exact h4
      · rw [List.mem_append, h2, List.mem_singleton]
        constructor
        · rintro (⟨j, hj, rfl⟩ | rfl)
          · exact ⟨j, by omega, rfl⟩
          · exact ⟨m, by omega, rfl⟩
        · rintro ⟨j, hj, rfl⟩
          by_cases e : j = m
          · exact .inr (by rw [e])
          · exact .inl ⟨j, by omega, rfl⟩
    · rw [if_neg hk, List.append_nil]
      refine ⟨h1, fun x => ?_⟩
      rw [h2]
      have hk' : ¬ (m = 0 ∨ d[m]! ≠ d[m - 1]!) := by unfold Lib.keeps at hk; simpa using hk
      constructor
      · rintro ⟨j, hj, rfl⟩; exact ⟨j, by omega, rfl⟩
      · rintro ⟨j, hj, rfl⟩
        by_cases e : j = m
        · subst e
          refine ⟨j - 1, by omega, ?_⟩
          by_cases h : d[j]! = d[j - 1]!
          · exact h.symm
          · exact absurd (.inr h) hk'
        · exact ⟨j, by omega, rfl⟩
def namesL (l : List Prim) : List ByteArray := (l.map refNames).flatten
def namesT (l : List Prim) : List ByteArray := compB (sortB (namesL l))
theorem comp_sort (l : List ByteArray) : (compB (sortB l)).Pairwise kl ∧ ∀ x, x ∈ compB (sortB l) ↔ x ∈ l := by
  have hse : (sortB l).map ofB = (l.map ofB).mergeSort fun x y => decide (x ≤ y) := by
    unfold sortB; rw [List.map_map]
    conv => rhs; rw [← List.map_id ((l.map ofB).mergeSort fun x y => decide (x ≤ y))]
    exact List.map_congr_left fun b _ => rfl
  have hpw : ((sortB l).map ofB).Pairwise (· ≤ ·) := by
    rw [hse]
    have := List.pairwise_mergeSort (le := fun x y : List UInt8 => decide (x ≤ y)) (by intro a b c h1 h2; simp only [decide_eq_true_eq] at *; exact List.le_trans h1 h2) (by intro a b; simp only [Bool.or_eq_true, decide_eq_true_eq]; exact List.le_total a b) (l.map ofB)
    exact this.imp fun h => by simpa using h
  have hs : ∀ i j, i ≤ j → j < ((sortB l).map ofB).toArray.size → ((sortB l).map ofB).toArray[i]! ≤ ((sortB l).map ofB).toArray[j]! := by
    intro i j hij hj
    have hj' : j < ((sortB l).map ofB).length := by simpa using hj
    rw [getElem!_pos _ i (by simpa using (by omega : i < ((sortB l).map ofB).length)), getElem!_pos _ j hj]
    rcases Nat.lt_or_eq_of_le hij with h | h
    · have := List.pairwise_iff_getElem.1 hpw i j (by omega) hj' h
      simpa using this
    · subst h; exact List.le_refl _
  obtain ⟨h1, h2⟩ := comp_spec _ hs _ (Nat.le_refl _)
  have hc : Lib.compact ((sortB l).map ofB) = Lib.compactUpTo ((sortB l).map ofB).toArray ((sortB l).map ofB).toArray.size := by unfold Lib.compact; simp
  unfold compB
  rw [hc]
  refine ⟨?_, fun x => ?_⟩
  · rw [List.pairwise_map]
    exact h1
  · rw [List.mem_map, ← sortB_mem (l := l)]
    constructor
    · rintro ⟨y, hy, rfl⟩
      obtain ⟨j, hj, rfl⟩ := (h2 y).1 hy
      have hj' : j < (sortB l).length := by simpa using hj
      have e : ((sortB l).map ofB).toArray[j]! = ofB (sortB l)[j] := by rw [getElem!_pos _ j hj]; simp
      rw [e, toB_ofB]
      exact List.getElem_mem hj'
    · intro hx
      obtain ⟨j, hj, e⟩ := List.mem_iff_getElem.1 hx
      refine ⟨ofB x, (h2 _).2 ⟨j, by simpa using hj, ?_⟩, rfl⟩
      rw [getElem!_pos _ j (by simpa using hj)]
      simp [e]
theorem kls_ext {a b : List ByteArray} (ha : a.Pairwise kl) (hb : b.Pairwise kl) (h : ∀ x, x ∈ a ↔ x ∈ b) : a = b := by
  have nd : ∀ {l : List ByteArray}, l.Pairwise kl → l.Nodup := fun hl => List.Pairwise.imp (R := kl) (S := fun a b => a ≠ b) (fun h e => kl_ne h e) hl
  exact List.Perm.eq_of_pairwise (le := kl) (fun a b _ _ h1 h2 => absurd (kl_trans h1 h2) (kl_irrefl _)) ha hb ((List.perm_ext_iff_of_nodup (nd ha) (nd hb)).2 h)
theorem kls_nodup {l : List ByteArray} (h : l.Pairwise kl) : l.Nodup := List.Pairwise.imp (R := kl) (S := fun a b => a ≠ b) (fun h e => kl_ne h e) h
structure Sel (all o : List ByteArray) : Prop where
  so : o.Pairwise kl
  sub : ∀ x ∈ o, x ∈ all
  rest : ∀ x ∈ all, x ∈ o ∨ ∀ y ∈ o, kl y x
def above (o : List ByteArray) (x : ByteArray) : Prop := o = [] ∨ ∃ h : o ≠ [], kl (o.getLast h) x
theorem Sel.above {all o : List ByteArray} (h : Sel all o) (x : ByteArray) : above o x ↔ ∀ y ∈ o, kl y x := by
  unfold Go.Sx.above
  constructor
  · rintro (rfl | ⟨h1, h2⟩)
    · intro y hy; cases hy
    · intro y hy
      have e := List.dropLast_concat_getLast h1
      rw [← e, List.mem_append] at hy
      rcases hy with hy | hy
      · have := h.so
        rw [← e, List.pairwise_append] at this
        exact kl_trans (this.2.2 y hy _ (List.mem_singleton_self _)) h2
      · rw [List.mem_singleton.1 hy]; exact h2
  · intro h1
    by_cases e : o = []
    · exact .inl e
    · exact .inr ⟨e, h1 _ (List.getLast_mem e)⟩
theorem Sel.nil (all : List ByteArray) : Sel all [] := ⟨List.Pairwise.nil, (fun x h => by cases h), (fun x _ => .inr (fun y h => by cases h))⟩
def Low (o seen : List ByteArray) (least : ByteArray) (is : Bool) : Prop :=
  (is = false → ∀ x ∈ seen, ¬ above o x) ∧ (is = true → least ∈ seen ∧ above o least ∧ ∀ x ∈ seen, above o x → ¬ kl x least)
theorem Low.nil (o : List ByteArray) (z : ByteArray) : Low o [] z false := ⟨(fun _ x h => by cases h), (fun h => by cases h)⟩
theorem Low.skip {o seen : List ByteArray} {z x : ByteArray} {is : Bool} (h : Low o seen z is) (hx : ¬ (Go.Sx.above o x ∧ (is = false ∨ kl x z))) : Low o (seen ++ [x]) z is := by
  refine ⟨fun e y hy => ?_, fun e => ?_⟩
  · rcases List.mem_append.1 hy with hy | hy
    · exact h.1 e y hy
    · rw [List.mem_singleton.1 hy]; exact fun ha => hx ⟨ha, .inl e⟩
  · obtain ⟨h1, h2, h3⟩ := h.2 e
    refine ⟨List.mem_append_left _ h1, h2, fun y hy ha => ?_⟩
    rcases List.mem_append.1 hy with hy | hy
    · exact h3 y hy ha
    · rw [List.mem_singleton.1 hy] at ha ⊢; exact fun hk => hx ⟨ha, .inr hk⟩
theorem Low.take {o seen : List ByteArray} {z x : ByteArray} {is : Bool} (h : Low o seen z is) (hx : Go.Sx.above o x) (hy : is = false ∨ kl x z) : Low o (seen ++ [x]) x true := by
  refine ⟨(fun e => by cases e), (fun _ => ⟨by simp, hx, fun y hm ha hk => ?_⟩)⟩
  rcases List.mem_append.1 hm with hm | hm
  · cases is with
    | false => exact h.1 rfl y hm ha
    | true =>
      obtain ⟨h1, h2, h3⟩ := h.2 rfl
      rcases hy with hy | hy
      · cases hy
      · exact h3 y hm ha (kl_trans hk hy)
  · rw [List.mem_singleton.1 hm] at hk; exact kl_irrefl _ hk
theorem Sel.step {all o : List ByteArray} {z : ByteArray} (h : Sel all o) (hl : Low o all z true) : Sel all (o ++ [z]) := by
  obtain ⟨h1, h2, h3⟩ := hl.2 rfl
  have h4 := (h.above z).1 h2
  refine ⟨List.pairwise_append.2 ⟨h.so, by simp, fun a ha b hb => by rw [List.mem_singleton.1 hb]; exact h4 a ha⟩, fun x hx => ?_, fun x hx => ?_⟩
  · rcases List.mem_append.1 hx with hx | hx
    · exact h.sub x hx
    · rw [List.mem_singleton.1 hx]; exact h1
  · rcases h.rest x hx with h5 | h5
    · exact .inl (List.mem_append_left _ h5)
    · have h6 := h3 x hx ((h.above x).2 h5)
      by_cases e : x = z
      · exact .inl (by rw [e]; simp)
      · refine .inr fun y hy => ?_
        rcases List.mem_append.1 hy with hy | hy
        · exact h5 y hy
        · rw [List.mem_singleton.1 hy]
          exact Classical.byContradiction fun hn => e (kl_tri h6 hn)
theorem Sel.done {l : List Prim} {o : List ByteArray} {z : ByteArray} (h : Sel (namesL l) o) (hl : Low o (namesL l) z false) : o = namesT l := by
  obtain ⟨h1, h2⟩ := comp_sort (namesL l)
  refine kls_ext h.so h1 fun x => ?_
  show x ∈ o ↔ x ∈ compB (sortB (namesL l))
  rw [h2]
  refine ⟨h.sub x, fun hx => ?_⟩
  rcases h.rest x hx with h3 | h3
  · exact h3
  · exact absurd ((h.above x).2 h3) (hl.1 rfl x hx)
theorem Sel.len {all o : List ByteArray} (h : Sel all o) : o.length ≤ all.length := nodup_le _ _ (kls_nodup h.so) h.sub
theorem namesT_len (l : List Prim) : (namesT l).length ≤ 2 * l.length := by
  have h1 : (namesT l).length ≤ (namesL l).length := by
    unfold namesT
    exact Nat.le_trans (compB_len _) (by rw [sortB_length]; exact Nat.le_refl _)
  have h2 : (namesL l).length ≤ 2 * l.length := by
    clear h1
    unfold namesL
    induction l with
    | nil => simp
    | cons p l ih =>
      simp only [List.map_cons, List.flatten_cons, List.length_append, List.length_cons]
      have h3 : (refNames p).length ≤ 2 := by
        unfold refNames
        split
        · split <;> simp
        · simp
      omega
  omega
theorem namesL_take {l : List Prim} {k : Nat} (h : k < l.length) : namesL (l.take (k + 1)) = namesL (l.take k) ++ refNames l[k] := by
  unfold namesL
  rw [List.take_succ_eq_append_getElem h, List.map_append, List.flatten_append]; simp
def touchT (l : List Prim) (s : ByteArray) : Bool := (namesT l).any fun x => decide (ofB s <+: ofB x)
end Go.Sx

end
section
set_option linter.unusedVariables false
set_option linter.unusedSimpArgs false
namespace Go.Proofs.YtdbiillompeclaaDoor.X
open Go Go.RowKit Go.Proofs Go.Sx
/-! What trees cost. -/
def longest (T : List File) : Nat := (T.map fun x => x.2.length).foldl max 0
theorem foldl_max : ∀ (l : List Nat) (a : Nat), (∀ x ∈ l, x ≤ l.foldl max a) ∧ a ≤ l.foldl max a
  | [], a => ⟨fun x hx => (by cases hx), Nat.le_refl _⟩
  | y :: l, a => by
    have ih := foldl_max l (max a y)
    simp only [List.foldl_cons]
    refine ⟨fun x hx => ?_, by omega⟩
    rcases List.mem_cons.1 hx with rfl | hx
    · omega
    · exact ih.1 x hx
theorem longest_mem {T : List File} {x : File} (h : x ∈ T) : x.2.length ≤ longest T := (foldl_max _ 0).1 _ (List.mem_map_of_mem h)
theorem longest_take {T : List File} {k : Nat} (h : k < T.length) : longest (T.take (k + 1)) = max (longest (T.take k)) T[k].2.length := by
  unfold longest
  rw [List.take_succ_eq_append_getElem h, List.map_append, List.foldl_append]; rfl
theorem longest_le {T : List File} {m : Nat} (h : ∀ x ∈ T, x.2.length ≤ m) : longest T ≤ m := by
  have key : ∀ (l : List Nat) (a : Nat), (∀ x ∈ l, x ≤ m) → a ≤ m → l.foldl max a ≤ m := by
    intro l
    induction l with
    | nil => intro a _ h; exact h
    | cons y l ih =>
      intro a hl ha
      have := hl y (by simp)
      exact ih _ (fun x hx => hl x (by simp [hx])) (by omega)
  refine key _ 0 (fun x hx => ?_) (Nat.zero_le _)
  obtain ⟨y, hy, rfl⟩ := List.mem_map.1 hx
  exact h y hy
theorem short_get {T : List File} (hT : Sor T) (h : ¬ 200 < longest T) (s : ByteArray) : (getL T s).length ≤ 200 := by
  unfold getL
  cases hg : getT T s with
  | none => exact Nat.zero_le _
  | some l =>
    have := longest_mem ((getT_some hT).1 hg)
    simp at this ⊢
    omega
theorem short_wide {T : List File} (hT : Sor T) (h : ¬ 200 < longest T) : wideB T = false := by
  unfold wideB
  rw [List.any_eq_false]
  intro s _
  rw [longB_nilr (short_get hT h s)]; simp
theorem costL_fm {α : Type} (f : α → List Prim) : ∀ (l : List α), costL (l.flatMap f) = (l.map fun x => costL (f x)).sum
  | [] => rfl
  | x :: l => by rw [List.flatMap_cons, costL_app, costL_fm f l]; rfl
theorem cost_to {nm : ByteArray} {l : List ByteArray} (h : l.length ≤ 200) : costL (linesT nm [] l) = l.length := by
  have := cost_lines (nm := nm) (longB_nill h)
  rw [lcs_nil] at this
  simpa using this
theorem cost_from {nm : ByteArray} {l : List ByteArray} (h : l.length ≤ 200) : costL (linesT nm l []) = l.length := by
  have := cost_lines (nm := nm) (longB_nilr h)
  rw [lcs_nilr] at this
  simpa using this
theorem cost_gone {T : List File} {s : ByteArray} (h : (getL T s).length ≤ 200) : costL (goneT T s) = (getL T s).length := by
  unfold goneT; rw [costL_app, cost_from h]; rfl
theorem cost_come {U : List File} {s : ByteArray} (h : (getL U s).length ≤ 200) : costL (comeT U s) = (getL U s).length := by
  unfold comeT; rw [costL_app, cost_to h]; show 0 + _ = _; omega
theorem cost_both {T U : List File} {s : ByteArray} (h : (getL T s).length ≤ 200) (k : (getL U s).length ≤ 200) : costL (bothT T U s) = costL (bothT U T s) := by
  unfold bothT; exact cost_turn (longB_two h k) (longB_two k h)
theorem sor_keys' {T : List File} (h : Sor T) : (T.map (·.1)).Pairwise kl := List.pairwise_map.2 h
theorem mem_filesT {T U : List File} {b : Bool} {s : ByteArray} : s ∈ filesT T U b ↔ hasT T s = true ∧ hasT U s = b := by
  unfold filesT
  rw [List.mem_filter, List.mem_map]
  constructor
  · rintro ⟨⟨x, hx, rfl⟩, h⟩
    exact ⟨hasT_iff.2 ⟨x, hx, rfl⟩, by simpa using h⟩
  · rintro ⟨h1, h2⟩
    obtain ⟨x, hx, e⟩ := hasT_iff.1 h1
    exact ⟨⟨x, hx, e⟩, by simp [h2]⟩
theorem files_sor {T : List File} (h : Sor T) (U : List File) (b : Bool) : (filesT T U b).Pairwise kl := (sor_keys' h).filter _
theorem files_both {T U : List File} (hT : Sor T) (hU : Sor U) : filesT T U true = filesT U T true :=
  kls_ext (files_sor hT U true) (files_sor hU T true) fun s => by rw [mem_filesT, mem_filesT, and_comm]
theorem cost_trees {T U : List File} (hT : Sor T) (hU : Sor U) (h : ¬ 200 < longest T) (k : ¬ 200 < longest U) :
    costL (treesT T U) = ((filesT T U false).map fun s => (getL T s).length).sum + ((filesT U T false).map fun s => (getL U s).length).sum + ((filesT T U true).map fun s => costL (bothT T U s)).sum := by
  rw [treesT_no (by rw [short_wide hT h, short_wide hU k]; rfl), costL_app, costL_app, costL_fm, costL_fm, costL_fm]
  congr 2
  · congr 1
    exact List.map_congr_left fun s _ => cost_gone (short_get hT h s)
  · congr 1
    exact List.map_congr_left fun s _ => cost_come (short_get hU k s)
theorem trees_turn {T U : List File} (hT : Sor T) (hU : Sor U) (h : ¬ 200 < longest T) (k : ¬ 200 < longest U) : costL (treesT T U) = costL (treesT U T) := by
  rw [cost_trees hT hU h k, cost_trees hU hT k h, files_both hT hU]
  have : (filesT U T true).map (fun s => costL (bothT T U s)) = (filesT U T true).map (fun s => costL (bothT U T s)) := List.map_congr_left fun s _ => cost_both (short_get hT h s) (short_get hU k s)
  rw [this]; omega
def linesOf (T : List File) : Nat := (T.map fun x => x.2.length).sum
theorem sum_keys {T : List File} (hT : Sor T) : ((T.map (·.1)).map fun s => (getL T s).length).sum = linesOf T := by
  unfold linesOf
  rw [List.map_map]
  congr 1
  refine List.map_congr_left fun x hx => ?_
  show (getL T x.1).length = _
  unfold getL
  rw [(getT_some hT).2 (show (x.1, x.2) ∈ T from hx)]; rfl
theorem short_nil : ¬ 200 < longest [] := by decide
theorem files_nil (T : List File) : filesT T [] false = T.map (·.1) ∧ filesT T [] true = [] ∧ ∀ b, filesT [] T b = [] := by
  refine ⟨List.filter_eq_self.2 fun x _ => rfl, List.filter_eq_nil_iff.2 fun x _ => ?_, fun b => rfl⟩
  show ¬ (!(!(hasT [] x == true))) = true
  have : hasT [] x = false := rfl
  rw [this]; decide
theorem trees_from {T : List File} (hT : Sor T) (h : ¬ 200 < longest T) : costL (treesT T []) = linesOf T := by
  obtain ⟨h1, h2, h3⟩ := files_nil T
  rw [cost_trees hT Sor.nil h short_nil, h1, h2, h3, ← sum_keys hT]
  simp
theorem trees_to {T : List File} (hT : Sor T) (h : ¬ 200 < longest T) : costL (treesT [] T) = linesOf T := by
  rw [← trees_turn hT Sor.nil h short_nil, trees_from hT h]
/-! bounds -/
theorem costL_fm_le {α : Type} {f : α → List Prim} {m : Nat} (h : ∀ x, costL (f x) ≤ m) : ∀ (l : List α), costL (l.flatMap f) ≤ l.length * m
  | [] => by simp [costL]
  | x :: l => by
    have := costL_fm_le h l
    have := h x
    rw [List.flatMap_cons, costL_app, List.length_cons, Nat.succ_mul]; omega
theorem lines_cost_b (nm : ByteArray) (a b : List ByteArray) : costL (linesT nm a b) ≤ 400 := by
  cases h : longB a b with
  | true => rw [linesT_long h]; exact Nat.zero_le _
  | false => have := cost_lines (nm := nm) h; have := longB_no h; omega
theorem trees_bnd (T U : List File) : (treesT T U).length ≤ (T.length + T.length + U.length) * 202 ∧ costL (treesT T U) ≤ (T.length + T.length + U.length) * 400 := by
  cases h : (wideB T || wideB U) with
  | true => rw [treesT_yes h]; exact ⟨Nat.zero_le _, Nat.zero_le _⟩
  | false =>
    rw [treesT_no h]
    have a1 := fm_len (goneT_len T) (filesT T U false)
    have a2 := fm_len (comeT_len U) (filesT U T false)
    have a3 := fm_len (bothT_len T U) (filesT T U true)
    have f1 := filesT_len T U false
    have f2 := filesT_len U T false
    have f3 := filesT_len T U true
    have c1 := costL_fm_le (f := goneT T) (m := 400) (fun s => by unfold goneT; rw [costL_app]; have := lines_cost_b s (getL T s) []; have e : costL [pRm s] = 0 := rfl; omega) (filesT T U false)
    have c2 := costL_fm_le (f := comeT U) (m := 400) (fun s => by unfold comeT; rw [costL_app]; have := lines_cost_b s [] (getL U s); have e : costL [pAd s] = 0 := rfl; omega) (filesT U T false)
    have c3 := costL_fm_le (f := bothT T U) (m := 400) (fun s => by unfold bothT; exact lines_cost_b s _ _) (filesT T U true)
    simp only [List.length_append, costL_app]
    omega
end Go.Proofs.YtdbiillompeclaaDoor.X

end
section
set_option linter.unusedVariables false
set_option linter.unusedSimpArgs false
namespace Go.Sx
open Go Go.RowKit
/-! A tree's text tells it from all others. -/
theorem sepU {x : UInt8} : ∀ {a b r s : List UInt8}, x ∉ a → x ∉ b → a ++ x :: r = b ++ x :: s → a = b ∧ r = s
  | [], [], r, s, _, _, h => ⟨rfl, (List.cons.inj h).2⟩
  | [], y :: b, r, s, _, hb, h => absurd (by rw [(List.cons.inj h).1]; simp) hb
  | y :: a, [], r, s, ha, _, h => absurd (by rw [← (List.cons.inj h).1]; simp) ha
  | y :: a, z :: b, r, s, ha, hb, h => by
    obtain ⟨h1, h2⟩ := List.cons.inj h
    obtain ⟨h3, h4⟩ := sepU (fun h => ha (List.mem_cons_of_mem _ h)) (fun h => hb (List.mem_cons_of_mem _ h)) h2
    exact ⟨by rw [h1, h3], h4⟩
def decV (l : List UInt8) : Nat := l.foldl (fun n b => n * 10 + (b.toNat - 48)) 0
theorem decV_dec (u : Nat) : decV (Lib.decDigits u) = u := by
  induction u using Nat.strongRecOn with
  | _ u ih =>
    by_cases h : u < 10
    · rw [Lib.decDigits, dif_pos h]
      have : (UInt8.ofNat (48 + u)).toNat = 48 + u := by rw [UInt8.toNat_ofNat']; omega
      unfold decV
      rw [List.foldl_cons, List.foldl_nil, this]; omega
    · rw [Lib.decDigits, dif_neg h]
      have : (UInt8.ofNat (48 + u % 10)).toNat = 48 + u % 10 := by rw [UInt8.toNat_ofNat']; omega
      have ih := ih (u / 10) (by omega)
      unfold decV at ih ⊢
      rw [List.foldl_append, ih, List.foldl_cons, List.foldl_nil, this]; omega
theorem dec_no (u : Nat) : (10 : UInt8) ∉ Lib.decDigits u := by
  induction u using Nat.strongRecOn with
  | _ u ih =>
    have key : ∀ v, v < 10 → (10 : UInt8) ≠ UInt8.ofNat (48 + v) := fun v hv e => by
      have := congrArg UInt8.toNat e
      rw [UInt8.toNat_ofNat'] at this
      have h10 : (10 : UInt8).toNat = 10 := rfl
      omega
    by_cases h : u < 10
    · rw [Lib.decDigits, dif_pos h, List.mem_singleton]; exact key u h
    · rw [Lib.decDigits, dif_neg h, List.mem_append, List.mem_singleton]
      rintro (h1 | h1)
      · exact ih _ (by omega) h1
      · exact key _ (by omega) h1
theorem name_no {k : ByteArray} (h : nameOk k = true) : (32 : UInt8) ∉ ofB k := fun hm => by
  unfold nameOk at h
  simp only [Bool.and_eq_true, List.all_eq_true] at h
  have := h.2 _ hm
  revert this; decide
theorem line_no {s : ByteArray} (h : lineOk s = true) : (10 : UInt8) ∉ ofB s := fun hm => by
  unfold lineOk at h
  simp only [Bool.and_eq_true, Bool.not_eq_true', ← Bool.not_eq_true] at h
  exact h.2 (by simpa using hm)
theorem lineT_inj : ∀ {l m : List ByteArray} {r s : List UInt8}, l.length = m.length → l.all lineOk = true → m.all lineOk = true → lineT l ++ r = lineT m ++ s → l = m ∧ r = s
  | [], [], r, s, _, _, _, h => ⟨rfl, h⟩
  | x :: l, y :: m, r, s, hl, h1, h2, h => by
    simp only [List.all_cons, Bool.and_eq_true] at h1 h2
    have e : ∀ (z : ByteArray) (n : List ByteArray) (t : List UInt8), lineT (z :: n) ++ t = ofB z ++ 10 :: (lineT n ++ t) := fun z n t => by simp [lineT]
    rw [e, e] at h
    obtain ⟨h3, h4⟩ := sepU (line_no h1.1) (line_no h2.1) h
    obtain ⟨h5, h6⟩ := lineT_inj (by simpa using hl) h1.2 h2.2 h4
    exact ⟨by rw [ofB_inj h3, h5], h6⟩
theorem textT_inj : ∀ {T U : List File}, Good T → Good U → textT T = textT U → T = U
  | [], [], _, _, _ => rfl
  | [], y :: U, _, _, h => by
    have := congrArg List.length h
    simp only [textT, fileT, List.flatMap_cons, List.length_append, List.flatMap_nil, List.length_nil, List.length_singleton] at this
    omega
  | x :: T, [], _, _, h => by
    have := congrArg List.length h
    simp only [textT, fileT, List.flatMap_cons, List.length_append, List.flatMap_nil, List.length_nil, List.length_singleton] at this
    omega
  | x :: T, y :: U, hT, hU, h => by
    have e : ∀ (z : File) (V : List File), textT (z :: V) = ofB z.1 ++ 32 :: (Lib.decDigits z.2.length ++ 10 :: (lineT z.2 ++ textT V)) := fun z V => by simp [textT, fileT]
    rw [e, e] at h
    obtain ⟨x1, x2⟩ := hT x (by simp)
    obtain ⟨y1, y2⟩ := hU y (by simp)
    obtain ⟨h1, h2⟩ := sepU (name_no x1) (name_no y1) h
    obtain ⟨h3, h4⟩ := sepU (dec_no _) (dec_no _) h2
    have h5 : x.2.length = y.2.length := by have := congrArg decV h3; rwa [decV_dec, decV_dec] at this
    obtain ⟨h6, h7⟩ := lineT_inj h5 x2 y2 h4
    have h8 := textT_inj (fun z hz => hT z (List.mem_cons_of_mem _ hz)) (fun z hz => hU z (List.mem_cons_of_mem _ hz)) h7
    rw [h8]
    congr 1
    exact Prod.ext (ofB_inj h1) h6
theorem dec_le (u : Nat) : (Lib.decDigits u).length ≤ u + 1 := by
  induction u using Nat.strongRecOn with
  | _ u ih =>
    by_cases h : u < 10
    · rw [Lib.decDigits, dif_pos h]; simp
    · rw [Lib.decDigits, dif_neg h, List.length_append, List.length_singleton]
      have := ih (u / 10) (by omega)
      omega
theorem lineT_len (l : List ByteArray) : (lineT l).length = sizes l + l.length := by
  unfold lineT sizes
  induction l with
  | nil => rfl
  | cons x l ih =>
    simp only [List.flatMap_cons, List.length_append, List.map_cons, List.sum_cons, List.length_cons, List.length_nil, ih, ofB_length]
    omega
theorem textT_le {n m : Nat} {T : List File} (h : Tok n m T) : (textT T).length ≤ n * (4 * m + 3) := by
  have key : ∀ (U : List File), (∀ x ∈ U, x.2.length ≤ m ∧ sizes x.2 ≤ m ∧ x.1.size ≤ m) → (textT U).length ≤ U.length * (4 * m + 3) := by
    intro U
    induction U with
    | nil => intro _; simp [textT]
    | cons x U ih =>
      intro hU
      obtain ⟨h1, h2, h3⟩ := hU x (by simp)
      have ih := ih fun y hy => hU y (List.mem_cons_of_mem _ hy)
      have e : (textT (x :: U)).length = (fileT x).length + (textT U).length := by simp [textT]
      have e2 : (fileT x).length = x.1.size + 1 + (Lib.decDigits x.2.length).length + 1 + (lineT x.2).length := by simp only [fileT, List.length_append, ofB_length, List.length_singleton]
      have e3 := dec_le x.2.length
      have e4 := lineT_len x.2
      rw [List.length_cons, Nat.succ_mul]
      omega
  exact Nat.le_trans (key T h.fit) (Nat.mul_le_mul_right _ h.len)
theorem few_yes {l : List TOp} (h : ¬ 0 < fewO l) : l.length ≤ 80 ∧ omany l ≤ 8000 := by
  unfold fewO at h
  split at h
  · assumption
  · omega
theorem few_text {l : List TOp} (h : ¬ 0 < fewO l) : (textT (madeT l)).length ≤ 100000000 := by
  obtain ⟨h1, h2⟩ := few_yes h
  have ht : Tok l.length 8000 (madeT l) := madeT_tok fun o ho => by have := omany_mem ho; omega
  refine Nat.le_trans (textT_le ht) ?_
  have : l.length * (4 * 8000 + 3) ≤ 80 * (4 * 8000 + 3) := Nat.mul_le_mul_right _ h1
  omega
end Go.Sx

end
section
set_option linter.unusedVariables false
set_option linter.unusedSimpArgs false
namespace Go.Proofs.YtdbiillompeclaaDoor.X
open Go Go.RowKit Go.Proofs Go.Sx
attribute [local irreducible] slA isA box row


set_option maxRecDepth 100000 in
theorem c_tMany (p b : Nat) (T : List File) (hS : (T.map (fun x => x.2.length)).sum ≤ 1000000000000) : Con Tryd.prog 18 [.pointer (some ⟨p, 0, none⟩)] [box p 75 [.map (some b)], tr b T] [] Unit (fun _ => .tuple #[.int .i64 (T.length : Int), .int .i64 ((T.map (fun x => x.2.length)).sum : Nat)]) (fun _ => [box p 75 [.map (some b)], tr b T]) (fun _ => []) := by
 refine con Tryd.func18 rfl Tryd.ntmps18 rfl ?_
 intro M0 F0 w0
 refine cs ?_
 refine cr ?_
 refine ls (op (p_asg rfl) rfl) ?_
 refine ls (op (p_asg rfl) rfl) ?_
 refine ln ?_
 refine nthen ?_
 refine cs ?_
 refine cs ?_
 refine cr ?_
 refine ls (op (p_move rfl) rfl) ?_
 refine ls (op (p_nilck rfl) rfl) ?_
 refine ls (op (p_fa fa75_0 rfl) rfl) ?_
 refine ls (o_ld Tryd.isAgg73 rfl (by repeat' constructor) (by repeat' constructor) rfl) ?_
 refine ls (o_mrange (i := 1) Tryd.underlying73 rfl rfl rfl) ?_
 refine le ?_; intro r10
 refine ln ?_
 refine nthen ?_
 refine cb ?_
 refine cl (ι := {q : List File × Int // q.2 = ((q.1.map (fun x => x.2.length)).sum : Nat)}) (fun i => St M0 F0 w0 25 [(0, .pointer (some ⟨p, 0, none⟩)), (10, .pointer (some ⟨r10, 0, none⟩)), (3, .int .i64 i.1.2)] [mit b r10 T i.1.1, box p 75 [.map (some b)]] []) (fun i => T.length - (i.1.1).length) ⟨([], 0), by simp⟩ (wk (is := [0, 0]) (by repeat (first | exact subσ.nil _ | refine subσ.cons rfl ?_)) rfl (by repeat' (first | constructor | apply Sub.suf))) ?_
 rintro ⟨⟨K, n⟩, hn⟩
 refine cmono (S' := St M0 F0 w0 25 [(0, .pointer (some ⟨p, 0, none⟩)), (10, .pointer (some ⟨r10, 0, none⟩)), (3, .int .i64 n)] [mit b r10 T K, box p 75 [.map (some b)]] []) (fun _ _ h => h) ?_
 refine cs ?_
 refine cpure (St.mit (by repeat' constructor)) ?_
 rintro ⟨hso, hKn, hKT⟩
 dsimp only at hn
 rcases Classical.em (∃ x ∈ T, x ∉ K) with hK | hK
 ·
  have hlt := nodup_lt hKn hKT hK
  refine cr ?_
  refine ls (o_mnextS (i := 0) rfl rfl hK rfl) ?_
  refine le ?_; rintro ⟨⟨⟨k, l⟩, y⟩, hxT, hxK⟩
  have hsl : ((K ++ [(k, l)]).map (fun x => x.2.length)).sum ≤ (T.map (fun x => x.2.length)).sum := nodup_sum _ _ _ (List.nodup_append.2 ⟨hKn, by simp, fun a ha b hb e => hxK (by simp at hb; exact hb ▸ e ▸ ha)⟩) (fun x hx => by rcases List.mem_append.1 hx with hx | hx; exact hKT x hx; rw [List.mem_singleton.1 hx]; exact hxT)
  have hsa : ((K ++ [(k, l)]).map (fun x => x.2.length)).sum = (K.map (fun x => x.2.length)).sum + l.length := by simp
  refine ls (op (p_ext rfl (by repeat' constructor)) rfl) ?_
  refine ln ?_
  refine nthen ?_
  refine cs ?_
  refine cc rfl (fun h => ?_) (fun h => by cases h)
  refine cskip ?_
  refine nthen ?_
  refine cb ?_
  refine cs ?_
  refine cr ?_
  refine ls (o_mentry rfl (by repeat' constructor) rfl) ?_
  refine le ?_; rintro y13
  refine ls (op (p_ext rfl (by repeat' constructor)) rfl) ?_
  refine ls (op (p_asg rfl) rfl) ?_
  refine ln ?_
  refine nthen ?_
  refine cr ?_
  refine ls (op (p_move rfl) rfl) ?_
  refine ls (op (p_move rfl) rfl) ?_
  refine ls (op (p_lenl rfl Tryd.underlying22) rfl) ?_
  refine ls (op (p_add rfl rfl (by dsimp only; omega)) rfl) ?_
  refine ls (op (p_asg rfl) rfl) ?_
  refine ln ?_
  refine nblock ?_
  refine nnext ⟨(K ++ [(k, l)], n + (l.length : Int)), by dsimp only; omega⟩ (by dsimp only; simp; omega) (wk (is := [0, 0]) (by repeat (first | exact subσ.nil _ | refine subσ.cons rfl ?_)) rfl (by repeat' (first | constructor | apply Sub.suf)))
 ·
  have hpm := perm_of_all hso hKn hKT hK
  have hsm : (K.map (fun x => x.2.length)).sum = (T.map (fun x => x.2.length)).sum := (hpm.map _).sum_nat
  rw [hsm] at hn
  subst hn
  refine cr ?_
  refine ls (o_mnextN rfl (by repeat' constructor) hK rfl) ?_
  refine ls (op (p_ext rfl (by repeat' constructor)) rfl) ?_
  refine ln ?_
  refine nthen ?_
  refine cs ?_
  refine cc rfl (fun h => by cases h) (fun h => ?_)
  refine cexit ?_
  refine xthen ?_
  refine xthen ?_
  refine xblock ?_
  refine nthen ?_
  refine cs ?_
  refine cmono (conv (i := 0) rfl mit_tr) ?_
  refine cr ?_
  refine ls (op (p_move rfl) rfl) ?_
  refine ls (op (p_nilck rfl) rfl) ?_
  refine ls (op (p_fa fa75_0 rfl) rfl) ?_
  refine ls (o_ld Tryd.isAgg73 rfl (by repeat' constructor) (by repeat' constructor) rfl) ?_
  refine ls (o_lenm Tryd.underlying73 rfl (by repeat' constructor) rfl) ?_
  refine ls (op (p_move rfl) rfl) ?_
  refine ls (op (p_asg rfl) rfl) ?_
  refine ls (op (p_asg rfl) rfl) ?_
  refine ln ?_
  refine nthen ?_
  refine cret ?_
  refine xret (fun _ _ h => h) ?_
  refine rret (is := [1, 0]) () (Or.inl rfl) (Res.t rfl (Res.t rfl Res.d)) (rfl) rfl (by repeat' (first | constructor | apply Sub.suf))

set_option maxRecDepth 100000 in
theorem c_rLong (T : List File) (A : Option Addr) (c : Nat) (hn : T.length ≤ 2000000) (hf : Tfit T) : Con Tryd.prog 17 [.slice A T.length c] [] [slA A T] Unit (fun _ => .int .i64 ((longest T : Nat) : Int)) (fun _ => []) (fun _ => []) := by
 refine con Tryd.func17 rfl Tryd.ntmps17 rfl ?_
 intro M0 F0 w0
 refine cs ?_
 refine cr ?_
 refine ls (op (p_asg rfl) rfl) ?_
 refine ln ?_
 refine nthen ?_
 refine cs ?_
 refine cr ?_
 refine ls (op (p_asg rfl) rfl) ?_
 refine ln ?_
 refine nthen ?_
 refine cs ?_
 refine cs ?_
 refine cr ?_
 refine ls (op (p_move rfl) rfl) ?_
 refine ls (op (p_lenl rfl Tryd.underlying41) rfl) ?_
 refine ls (op (p_move rfl) rfl) ?_
 refine ln ?_
 refine nthen ?_
 refine cb ?_
 refine cl (ι := {k : Nat // k ≤ T.length}) (fun i => St M0 F0 w0 19 [(3, .int .i64 ((longest (T.take i.1) : Nat) : Int)), (6, .slice A T.length c), (7, .int .i64 (T.length : Int)), (8, .int .i64 ((i.1 : Nat) : Int))] [] [slA A T]) (fun i => T.length - i.1) ⟨0, Nat.zero_le _⟩ (wk (is := []) (by repeat (first | exact subσ.nil _ | refine subσ.cons rfl ?_)) rfl (by repeat' (first | constructor | apply Sub.suf))) ?_
 rintro ⟨k, hk⟩
 refine cmono (S' := St M0 F0 w0 19 [(3, .int .i64 ((longest (T.take k) : Nat) : Int)), (6, .slice A T.length c), (7, .int .i64 (T.length : Int)), (8, .int .i64 ((k : Nat) : Int))] [] [slA A T]) (fun _ _ h => h) ?_
 refine cs ?_
 refine cr ?_
 refine ls (op (p_icmp rfl rfl rfl) rfl) ?_
 refine ln ?_
 refine nthen ?_
 refine cs ?_
 refine cc rfl ?_ ?_
 ·
  intro h9
  try simp only [decide_eq_true_eq, decide_eq_false_iff_not, Bool.not_eq_true', Bool.not_eq_false', Int.not_lt, Int.not_le, ge_iff_le, Bool.not_true, Bool.not_false] at h9
  have hk1 : k < T.length := by omega
  have elt := longest_take hk1
  refine cskip ?_
  refine nthen ?_
  refine cs ?_
  refine cb ?_
  refine cs ?_
  refine elC (A := A) (l := T) (by repeat' constructor) k (List.getElem?_eq_getElem hk1) ?_; rintro zbp zop zyp hAp
  refine cr ?_
  refine ls (op (p_ia k hAp hk1 rfl Tryd.underlying41 Tryd.sizeOf72 rfl rfl) rfl) ?_
  refine ls (o_ldj Tryd.isAgg72 Tryd.sizeOf72 rfl (by repeat' constructor) 0 rfl (by repeat (first | exact Cut.d | apply Cut.t | apply Cut.s)) rfl) ?_
  refine ls (o_alloc Tryd.zeroValue72 rfl rfl) ?_
  refine le ?_; intro b5
  refine ls (o_st rfl Tryd.sizeOf72 rfl rfl rfl rfl rfl (by repeat' constructor) (by repeat' constructor) (by repeat' constructor)) ?_
  refine ln ?_
  refine nthen ?_
  refine cr ?_
  refine ls (op (p_move rfl) rfl) ?_
  refine ls (op (p_fa fa72_1 rfl) rfl) ?_
  refine ls (o_ld Tryd.isAgg22 rfl (by repeat' constructor) (by repeat' constructor) rfl) ?_
  refine ls (op (p_lenl rfl Tryd.underlying22) rfl) ?_
  refine ls (op (p_max rfl rfl) rfl) ?_
  refine fixL (v' := .int .i64 ((longest (T.take (k + 1)) : Nat) : Int)) (by rw [elt]; congr 1; omega) ?_
  refine ls (op (p_asg rfl) rfl) ?_
  refine ln ?_
  refine nblock ?_
  refine nthen ?_
  refine cr ?_
  refine ls (op (p_add rfl rfl (by omega)) rfl) ?_
  refine ls (op (p_move rfl) rfl) ?_
  refine ln ?_
  refine nnext ⟨k + 1, hk1⟩ (by dsimp only; omega) (wk (is := []) (by repeat (first | exact subσ.nil _ | refine subσ.cons rfl ?_)) rfl (by repeat' (first | constructor | apply Sub.suf)))
 ·
  intro h9
  try simp only [decide_eq_true_eq, decide_eq_false_iff_not, Bool.not_eq_true', Bool.not_eq_false', Int.not_lt, Int.not_le, ge_iff_le, Bool.not_true, Bool.not_false] at h9
  obtain rfl : k = T.length := by omega
  rw [List.take_length]
  refine cexit ?_
  refine xthen ?_
  refine xthen ?_
  refine xblock ?_
  refine nthen ?_
  refine cs ?_
  refine cr ?_
  refine ls (op (p_move rfl) rfl) ?_
  refine ls (op (p_asg rfl) rfl) ?_
  refine ln ?_
  refine nthen ?_
  refine cret ?_
  refine xret (fun _ _ h => h) ?_
  refine rret (is := []) () (Or.inl rfl) (Res.t rfl Res.d) (rfl) rfl (by repeat' (first | constructor | apply Sub.suf))

set_option maxRecDepth 100000 in
theorem c_DiffTurned (l : List TOp) (A : Option Addr) (c : Nat) (hll : l.length ≤ 1048576) (hMl : omany l ≤ 1048576) (m : List TOp) (B : Option Addr) (c' : Nat) (hlm : m.length ≤ 1048576) (hMm : omany m ≤ 1048576) : Con Tryd.prog 6 [.slice A l.length c, .slice B m.length c'] [] [slA A l, slA B m] Unit (fun _ => .bool (true)) (fun _ => []) (fun _ => []) := by
 have hMol : ∀ o ∈ l, o.many ≤ 2000000 := fun o ho => by have := omany_mem ho; omega
 have htokl : Tok l.length 2000000 (madeT l) := madeT_tok hMol
 have hlenl := htokl.len
 have hfitl : Tfit (madeT l) := fun x hx => (htokl.fit x hx).1
 have hsol := madeT_sor l
 have hMom : ∀ o ∈ m, o.many ≤ 2000000 := fun o ho => by have := omany_mem ho; omega
 have htokm : Tok m.length 2000000 (madeT m) := madeT_tok hMom
 have hlenm := htokm.len
 have hfitm : Tfit (madeT m) := fun x hx => (htokm.fit x hx).1
 have hsom := madeT_sor m
 refine con Tryd.func6 rfl Tryd.ntmps6 rfl ?_
 intro M0 F0 w0
 refine cs ?_
 refine cr ?_
 refine ls (op (p_asg rfl) rfl) ?_
 refine ln ?_
 refine nthen ?_
 refine cs ?_
 refine cs ?_
 refine cr ?_
 refine ls (op (p_move rfl) rfl) ?_
 refine ls (o_call (is := []) Tryd.call15 (c_Few02 l A c (by omega) (by omega)) rfl rfl (by repeat' (first | constructor | apply Sub.suf)) rfl) ?_
 refine le ?_; intro x12
 refine ls (op (p_icmp rfl rfl rfl) rfl) ?_
 refine ls (op (p_move rfl) rfl) ?_
 refine orX 4 14 18 rfl (subσ.cons (t := 0) rfl (subσ.cons (t := 1) rfl (subσ.cons (t := 4) rfl (subσ.nil _)))) ?_ ?_
 ·
  intro h14
  refine lskip rfl rfl rfl rfl rfl ?_
  refine lskip rfl rfl rfl rfl rfl ?_
  refine lskip rfl rfl rfl rfl rfl ?_
  refine ls (op (p_pickt rfl rfl) rfl) ?_
  refine ln (nmid (wk0 (by repeat (first | exact subσ.nil _ | refine subσ.cons rfl ?_)) (by repeat' (first | constructor | apply Sub.suf))))
 apply exI
 ·
  intro h14
  refine lwant rfl rfl rfl rfl (op (p_move rfl) rfl) ?_
  refine lwant rfl rfl rfl rfl (o_call (is := []) Tryd.call15 (c_Few02 m B c' (by omega) (by omega)) rfl rfl (by repeat' (first | constructor | apply Sub.suf)) rfl) ?_
  refine le ?_; intro x16
  refine lwant rfl rfl rfl rfl (op (p_icmp rfl rfl rfl) rfl) ?_
  refine ls (op (p_pickf rfl rfl) rfl) ?_
  refine ln (nmid (wk0 (by repeat (first | exact subσ.nil _ | refine subσ.cons rfl ?_)) (by repeat' (first | constructor | apply Sub.suf))))
 ·
  refine ln ?_
  refine nthen ?_
  refine cc rfl ?_ ?_
  ·
   intro h18
   skip
   refine cs ?_
   refine cr ?_
   refine ls (o_call (is := []) Tryd.call9 (c_alive06) rfl rfl (by repeat' (first | constructor | apply Sub.suf)) rfl) ?_
   refine le ?_; intro x19
   refine ls (op (p_asg rfl) rfl) ?_
   refine ln ?_
   refine nthen ?_
   refine cret ?_
   refine xret (fun _ _ h => h) ?_
   refine rret (is := []) () (Or.inl rfl) (Res.t rfl Res.d) (rfl) rfl (by repeat' (first | constructor | apply Sub.suf))
  ·
   intro h18
   obtain ⟨hw1, hw2⟩ : ¬ 0 < fewO l ∧ ¬ 0 < fewO m := by have h := h18; simp at h; omega
   have hfl := few_yes hw1
   have hfm := few_yes hw2
   refine cskip ?_
   refine nthen ?_
   refine cs ?_
   refine cr ?_
   refine ls (op (p_move rfl) rfl) ?_
   refine ls (o_call (is := []) Tryd.call16 (c_Made02 l A c (by omega) hMol) rfl rfl (by repeat' (first | constructor | apply Sub.suf)) rfl) ?_
   refine le ?_; rintro ⟨⟨p, b⟩, ⟨A2, c2⟩⟩
   refine ls (op (p_move rfl) rfl) ?_
   refine ls (op (p_ext rfl (by repeat' constructor)) rfl) ?_
   refine ls (op (p_ext rfl (by repeat' constructor)) rfl) ?_
   refine ls (op (p_asg rfl) rfl) ?_
   refine ls (op (p_asg rfl) rfl) ?_
   refine ln ?_
   refine nthen ?_
   refine cs ?_
   refine cr ?_
   refine ls (op (p_move rfl) rfl) ?_
   refine ls (o_call (is := []) Tryd.call16 (c_Made02 m B c' (by omega) hMom) rfl rfl (by repeat' (first | constructor | apply Sub.suf)) rfl) ?_
   refine le ?_; rintro ⟨⟨p2, b2⟩, ⟨A3, c3⟩⟩
   refine ls (op (p_move rfl) rfl) ?_
   refine ls (op (p_ext rfl (by repeat' constructor)) rfl) ?_
   refine ls (op (p_ext rfl (by repeat' constructor)) rfl) ?_
   refine ls (op (p_asg rfl) rfl) ?_
   refine ls (op (p_asg rfl) rfl) ?_
   refine ln ?_
   refine nthen ?_
   refine cs ?_
   refine cs ?_
   refine cr ?_
   refine ls (op (p_move rfl) rfl) ?_
   refine ls (op (p_ptrnil Tryd.underlying39 rfl rfl) rfl) ?_
   refine ls (op (p_move rfl) rfl) ?_
   refine lwant rfl rfl rfl rfl (op (p_move rfl) rfl) ?_
   refine lwant rfl rfl rfl rfl (op (p_ptrnil Tryd.underlying39 rfl rfl) rfl) ?_
   refine ls (op (p_pickf rfl rfl) rfl) ?_
   refine ln ?_
   refine nthen ?_
   refine cc rfl (fun h => by cases h) (fun h => ?_)
   refine cskip ?_
   refine nthen ?_
   refine cs ?_
   refine cs ?_
   refine cr ?_
   refine ls (op (p_move rfl) rfl) ?_
   refine ls (o_call (is := []) Tryd.call17 (c_rLong (madeT l) A2 c2 (by omega) hfitl) rfl rfl (by repeat' (first | constructor | apply Sub.suf)) rfl) ?_
   refine le ?_; intro x37
   refine ls (op (p_icmp rfl rfl rfl) rfl) ?_
   refine ls (op (p_move rfl) rfl) ?_
   refine orX 4 39 43 rfl (subσ.cons (t := 0) rfl (subσ.cons (t := 1) rfl (subσ.cons (t := 4) rfl (subσ.cons (t := 18) rfl (subσ.cons (t := 21) rfl (subσ.cons (t := 22) rfl (subσ.cons (t := 20) rfl (subσ.cons (t := 23) rfl (subσ.cons (t := 24) rfl (subσ.cons (t := 5) rfl (subσ.cons (t := 26) rfl (subσ.cons (t := 27) rfl (subσ.cons (t := 25) rfl (subσ.cons (t := 28) rfl (subσ.cons (t := 29) rfl (subσ.cons (t := 7) rfl (subσ.cons (t := 30) rfl (subσ.cons (t := 31) rfl (subσ.cons (t := 32) rfl (subσ.cons (t := 33) rfl (subσ.cons (t := 34) rfl (subσ.cons (t := 35) rfl (subσ.nil _))))))))))))))))))))))) ?_ ?_
   ·
    intro h39
    refine lskip rfl rfl rfl rfl rfl ?_
    refine lskip rfl rfl rfl rfl rfl ?_
    refine lskip rfl rfl rfl rfl rfl ?_
    refine ls (op (p_pickt rfl rfl) rfl) ?_
    refine ln (nmid (wk0 (by repeat (first | exact subσ.nil _ | refine subσ.cons rfl ?_)) (by repeat' (first | constructor | apply Sub.suf))))
   apply exI
   ·
    intro h39
    refine lwant rfl rfl rfl rfl (op (p_move rfl) rfl) ?_
    refine lwant rfl rfl rfl rfl (o_call (is := []) Tryd.call17 (c_rLong (madeT m) A3 c3 (by omega) hfitm) rfl rfl (by repeat' (first | constructor | apply Sub.suf)) rfl) ?_
    refine le ?_; intro x41
    refine lwant rfl rfl rfl rfl (op (p_icmp rfl rfl rfl) rfl) ?_
    refine ls (op (p_pickf rfl rfl) rfl) ?_
    refine ln (nmid (wk0 (by repeat (first | exact subσ.nil _ | refine subσ.cons rfl ?_)) (by repeat' (first | constructor | apply Sub.suf))))
   ·
    refine ln ?_
    refine nthen ?_
    refine cc rfl ?_ ?_
    ·
     intro h43
     skip
     refine cs ?_
     refine cr ?_
     refine ls (o_call (is := []) Tryd.call9 (c_alive06) rfl rfl (by repeat' (first | constructor | apply Sub.suf)) rfl) ?_
     refine le ?_; intro x44
     refine ls (op (p_asg rfl) rfl) ?_
     refine ln ?_
     refine nthen ?_
     refine cret ?_
     refine xret (fun _ _ h => h) ?_
     refine rret (is := []) () (Or.inl rfl) (Res.t rfl Res.d) (rfl) rfl (by repeat' (first | constructor | apply Sub.suf))
    ·
     intro h43
     obtain ⟨hw3, hw4⟩ : ¬ 200 < longest (madeT l) ∧ ¬ 200 < longest (madeT m) := by have h := h43; simp at h; omega
     have hct := trees_turn hsol hsom hw3 hw4
     have hcf := trees_from hsol hw3
     have hcg := trees_to hsol hw3
     have hsum : ((madeT l).map (fun x => x.2.length)).sum = linesOf (madeT l) := rfl
     refine cskip ?_
     refine nthen ?_
     refine cs ?_
     refine cr ?_
     refine ls (op (p_move rfl) rfl) ?_
     refine ls (o_call (is := [2, 2]) Tryd.call18 (c_tMany p b (madeT l) (by rw [hsum]; rw [← hcf]; have := (trees_bnd (madeT l) []).2; simp only [List.length_nil] at this; omega)) rfl rfl (by repeat' (first | constructor | apply Sub.suf)) rfl) ?_
     refine le ?_; intro x47
     refine ls (op (p_move rfl) rfl) ?_
     refine ls (op (p_ext rfl (by repeat' constructor)) rfl) ?_
     refine ls (op (p_ext rfl (by repeat' constructor)) rfl) ?_
     refine ls (op (p_asg rfl) rfl) ?_
     refine ls (op (p_asg rfl) rfl) ?_
     refine ln ?_
     refine nthen ?_
     refine cs ?_
     refine cr ?_
     refine ls (o_call (is := []) Tryd.call9 (c_alive06) rfl rfl (by repeat' (first | constructor | apply Sub.suf)) rfl) ?_
     refine le ?_; intro x50
     refine ls (op (p_move rfl) rfl) ?_
     refine lwant rfl rfl rfl rfl (op (p_move rfl) rfl) ?_
     refine lwant rfl rfl rfl rfl (op (p_move rfl) rfl) ?_
     refine lwant rfl rfl rfl rfl (o_call (is := [0, 0, 0, 0]) Tryd.call19 (c_dTrees p b (madeT l) hfitl (by omega) hsol p2 b2 (madeT m) hfitm (by omega) hsom) rfl rfl (by repeat' (first | constructor | apply Sub.suf)) rfl) ?_
     refine le ?_; rintro ⟨A54, c54⟩
     refine lmono (fun a w h => Go.Sx.freeze (i := 0) rfl h) ?_
     refine lwant rfl rfl rfl rfl (o_call (is := []) Tryd.call13 (c_dCost (treesT (madeT l) (madeT m)) A54 c54 (by have := (trees_bnd (madeT l) (madeT m)).1; (try simp only [List.length_nil] at this ⊢); omega) (by have := (trees_bnd (madeT l) (madeT m)).2; (try simp only [List.length_nil] at this ⊢); omega)) rfl rfl (by repeat' (first | constructor | apply Sub.suf)) rfl) ?_
     refine le ?_; intro x55
     refine lwant rfl rfl rfl rfl (op (p_move rfl) rfl) ?_
     refine lwant rfl rfl rfl rfl (op (p_move rfl) rfl) ?_
     refine lwant rfl rfl rfl rfl (o_call (is := [2, 2, 0, 0]) Tryd.call19 (c_dTrees p2 b2 (madeT m) hfitm (by omega) hsom p b (madeT l) hfitl (by omega) hsol) rfl rfl (by repeat' (first | constructor | apply Sub.suf)) rfl) ?_
     refine le ?_; rintro ⟨A58, c58⟩
     refine lmono (fun a w h => Go.Sx.freeze (i := 0) rfl h) ?_
     refine lwant rfl rfl rfl rfl (o_call (is := []) Tryd.call13 (c_dCost (treesT (madeT m) (madeT l)) A58 c58 (by have := (trees_bnd (madeT m) (madeT l)).1; (try simp only [List.length_nil] at this ⊢); omega) (by have := (trees_bnd (madeT m) (madeT l)).2; (try simp only [List.length_nil] at this ⊢); omega)) rfl rfl (by repeat' (first | constructor | apply Sub.suf)) rfl) ?_
     refine le ?_; intro x59
     refine lwant rfl rfl rfl rfl (op (p_icmp rfl rfl rfl) rfl) ?_
     refine fixL (congrArg Value.bool (decide_eq_true (by rw [hct]))) ?_
     refine ls (op (p_pickt rfl rfl) rfl) ?_
     refine ls (op (p_move rfl) rfl) ?_
     refine lwant rfl rfl rfl rfl (op (p_move rfl) rfl) ?_
     refine lwant rfl rfl rfl rfl (o_call (is := [2, 2]) Tryd.call19 (c_dTreesN p b (madeT l) hfitl (by omega) hsol) rfl rfl (by repeat' (first | constructor | apply Sub.suf)) rfl) ?_
     refine le ?_; rintro ⟨A64, c64⟩
     refine lmono (fun a w h => Go.Sx.freeze (i := 0) rfl h) ?_
     refine lwant rfl rfl rfl rfl (o_call (is := []) Tryd.call13 (c_dCost (treesT [] (madeT l)) A64 c64 (by have := (trees_bnd [] (madeT l)).1; (try simp only [List.length_nil] at this ⊢); omega) (by have := (trees_bnd [] (madeT l)).2; (try simp only [List.length_nil] at this ⊢); omega)) rfl rfl (by repeat' (first | constructor | apply Sub.suf)) rfl) ?_
     refine le ?_; intro x65
     refine lwant rfl rfl rfl rfl (op (p_move rfl) rfl) ?_
     refine lwant rfl rfl rfl rfl (op (p_icmp rfl rfl rfl) rfl) ?_
     refine fixL (congrArg Value.bool (decide_eq_true (by rw [hcg]; rfl))) ?_
     refine ls (op (p_pickt rfl rfl) rfl) ?_
     refine ls (op (p_move rfl) rfl) ?_
     refine lwant rfl rfl rfl rfl (op (p_move rfl) rfl) ?_
     refine lwant rfl rfl rfl rfl (o_call (is := [0, 0]) Tryd.call19 (c_dTreesM p b (madeT l) hfitl (by omega) hsol) rfl rfl (by repeat' (first | constructor | apply Sub.suf)) rfl) ?_
     refine le ?_; rintro ⟨A71, c71⟩
     refine lmono (fun a w h => Go.Sx.freeze (i := 0) rfl h) ?_
     refine lwant rfl rfl rfl rfl (o_call (is := []) Tryd.call13 (c_dCost (treesT (madeT l) []) A71 c71 (by have := (trees_bnd (madeT l) []).1; (try simp only [List.length_nil] at this ⊢); omega) (by have := (trees_bnd (madeT l) []).2; (try simp only [List.length_nil] at this ⊢); omega)) rfl rfl (by repeat' (first | constructor | apply Sub.suf)) rfl) ?_
     refine le ?_; intro x72
     refine lwant rfl rfl rfl rfl (op (p_move rfl) rfl) ?_
     refine lwant rfl rfl rfl rfl (op (p_icmp rfl rfl rfl) rfl) ?_
     refine fixL (congrArg Value.bool (decide_eq_true (by rw [hcf]; rfl))) ?_
     refine ls (op (p_pickt rfl rfl) rfl) ?_
     refine ls (op (p_asg rfl) rfl) ?_
     refine ln ?_
     refine nthen ?_
     refine cret ?_
     refine xret (fun _ _ h => h) ?_
     refine rret (is := []) () (Or.inl rfl) (Res.t rfl Res.d) (rfl) rfl (by repeat' (first | constructor | apply Sub.suf))

end Go.Proofs.YtdbiillompeclaaDoor.X

end
