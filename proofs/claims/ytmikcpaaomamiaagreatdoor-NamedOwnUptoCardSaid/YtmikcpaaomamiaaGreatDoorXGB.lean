/- OWN WORK: a part of the proof of a law of the seat YtmikcpaaomamiaaGreatDoor: the rules by which the code is walked, what the functions compute, and the walk through them. -/
import Derived.Test.YtmikcpaaomamiaaGreatDoorXGA
import Derived.ChangeOld
import Derived.DataReads
import Derived.Maps.RangeRun
import Derived.MapKept
import Derived.Laws.Externs
import Derived.Laws.Pointers
import Derived.Test.YtmikcpaaomamiaaGreatDoorProg
import Derived.Shelf.Strings.SlTrimAscii
import Derived.Shelf.Strings.Trim
import Derived.Shelf.Small.Utf8
import Derived.Shelf.Small.Strs
import Derived.Shelf.Strings.Search1
import Derived.Shelf.Strings.Search2
import Derived.Shelf.Strings.Search3
import Derived.Shelf.Sort.Plain
import Derived.Ground.Names2Prog
import Derived.Shelf.Slices.In.SortNone
import Derived.Ground.SlgnProg
import Derived.Lib.AppendStr
import Derived.Lib.UnsafeStr
import Derived.Lib.Builder
import Derived.Lib.ItoaNum
section
set_option linter.unusedVariables false
set_option linter.unusedSimpArgs false
namespace Go.Sx
open Go Go.RowKit Go.Proofs Go.Joins Go.ChangeShapes Go.WideShapes Go.Deep
/-! Slices that came in, of whatever is opened. -/
structure BulkI (H : Type) extends Bulk H where
  int : ∀ k z, one (.lit (.int k z)) = 1
section
variable {H : Type} {enc : TypeId × Value → H} {P : Program} {w : World}
theorem cell_at {a : Addr} {v : Value} (h : w.cell? ((a.add 0).add 0) = some v) : ∃ b o, a = ⟨b, o, none⟩ := by
  obtain ⟨b, o, sp⟩ := a
  cases sp with
  | none => exact ⟨b, o, rfl⟩
  | some z =>
    simp only [Addr.add, World.cell?] at h
    split at h <;> simp_all
theorem open_slice {α : Type} [Rp α] {t e : TypeId} {fuel : Nat} {v : Value} {x : DataW H × List MemPlace} (B : Bulk H) (ht : P.underlying t = some (.slice e)) (hc : P.cellsOf e = Rp.size α) (hsz : 0 < Rp.size α) (W : α → Nat)
    (he : ∀ n cs x, DataW.trod enc P w 0 (fun _ => true) true n e cs = some x → ∃ (z : α) (y : Rp.Lay α), cs = Rp.enc z y ∧ (∀ a ∈ Rp.asn z y, a.p (fun _ => False) w) ∧ W z + 1 ≤ B.one x.1)
    (h : DataW.trod enc P w 0 (fun _ => true) true fuel t [v] = some x) :
    ∃ (l : List α) (y : Option Addr × Nat), v = .slice y.1 l.length y.2 ∧ (slA y.1 l).p (fun _ => False) w ∧ l.length + (l.map W).sum ≤ B.one x.1 ∧ l.length ≤ y.2 ∧ (B.one .nil = 1 → l.length + (l.map W).sum + 1 ≤ B.one x.1) ∧ (y.1 = none → y.2 = 0) := by
  rcases DataW.trod_slice ht h with ⟨h0, hx0⟩ | ⟨a, len, cap, elems, rest, n, _, h0, hx, hb, hl, hm, hlen, hel, _, _⟩
  · cases h0
    exact ⟨[], (none, 0), rfl, (fun j x hj => by simp at hj), by simp, Nat.zero_le _, fun h1 => by rw [hx0]; simp [h1], fun _ => rfl⟩
  · cases h0
    have key : ∀ k, k ≤ len → ∃ l : List α, l.length = k ∧ (l.length + (l.map W).sum ≤ B.all ((elems.take k).map (·.1))) ∧
        ∀ j z, l[j]? = some z → ∃ y : Rp.Lay α, (∀ i v, (Rp.enc z y)[i]? = some v → w.cell? ((a.add (j * Rp.size α)).add i) = some v) ∧ ∀ p ∈ Rp.asn z y, p.p (fun _ => False) w := by
      intro k
      induction k with
      | zero => exact fun _ => ⟨[], rfl, by simp [B.nil], fun j z hj => by simp at hj⟩
      | succ k ih =>
        intro hk
        obtain ⟨l, h1, h2, h3⟩ := ih (by omega)
        have hk1 : k < elems.length := by omega
        have hr := hel k (by omega)
        rw [List.getElem?_eq_getElem hk1, Option.bind_eq_some_iff] at hr
        obtain ⟨cs, hcs, htr⟩ := hr
        obtain ⟨z, y, rfl, hy, hw⟩ := he _ _ _ htr
        rw [hc] at hcs
        obtain ⟨_, _, hcell⟩ := World.cells?_some hcs
        refine ⟨l ++ [z], by simp [h1], ?_, fun j z' hj => ?_⟩
        · have hall : ∀ (xs : List (DataW H)) (d : DataW H), B.all (xs ++ [d]) = B.all xs + B.one d := by
            intro xs d
            induction xs with
            | nil => simp [B.cons, B.nil]
            | cons x xs ih => rw [List.cons_append, B.cons, B.cons, ih]; omega
          have e5 : (elems.take (k + 1)).map (·.1) = (elems.take k).map (·.1) ++ [elems[k].1] := by rw [List.take_succ_eq_append_getElem hk1, List.map_append]; rfl
          rw [e5, hall]
          simp only [List.length_append, List.map_append, List.sum_append, List.length_cons, List.length_nil, List.map_cons, List.map_nil, List.sum_cons, List.sum_nil]
          omega
        · rcases Nat.lt_or_ge j l.length with hj' | hj'
          · rw [List.getElem?_append_left hj'] at hj
            exact h3 j z' hj
          · rw [List.getElem?_append_right hj'] at hj
            have hj0 : j - l.length = 0 := by
              have := (List.getElem?_eq_some_iff.1 hj).1
              simpa using this
            have hje : j = k := by omega
            subst hje
            rw [hj0] at hj
            have : z = z' := by simpa using hj
            subst this
            refine ⟨y, fun i v hi => ?_, hy⟩
            have hlt := (List.getElem?_eq_some_iff.1 hi).1
            rw [Rp.len] at hlt
            rw [hcell i hlt]
            exact hi
    obtain ⟨l, h1, h2, h3⟩ := key len (Nat.le_refl _)
    have htk : elems.take len = elems := List.take_of_length_le (by omega)
    rw [htk] at h2
    refine ⟨l, (some a, cap), by rw [h1], ?_, ?_, by dsimp only; omega, fun _ => ?_, fun h => by cases h⟩
    · intro j z hj
      obtain ⟨y, hy1, hy2⟩ := h3 j z hj
      have hl0 : 0 < l.length := by have := (List.getElem?_eq_some_iff.1 hj).1; omega
      obtain ⟨y0, hy0, _⟩ := h3 0 l[0] (List.getElem?_eq_getElem hl0)
      have hpos : 0 < (Rp.enc l[0] y0).length := by rw [Rp.len]; exact hsz
      have hc0 := hy0 0 _ (List.getElem?_eq_getElem hpos)
      rw [Nat.zero_mul] at hc0
      obtain ⟨b, o, rfl⟩ := cell_at hc0
      have hlt : b < w.heap.size := by
        rw [Addr.add_lit, Addr.add_lit] at hc0
        simp only [World.cell?] at hc0
        cases hb : w.heap[b]? with
        | none => simp [hb] at hc0
        | some x => exact (Array.getElem?_eq_some_iff.1 hb).1
      refine ⟨b, o, y, rfl, id, hlt, fun i v hi => ?_, hy2⟩
      have := hy1 i v hi
      rw [Addr.add_lit, Addr.add_lit] at this
      exact this
    · rw [hx]
      simp only
      rw [B.slc]
      omega
    · rw [hx]
      simp only
      rw [B.slc]
      omega
theorem open_ints1 {t e : TypeId} {fuel : Nat} {v : Value} {x : DataW H × List MemPlace} (B : BulkI H) (ht : P.underlying t = some (.slice e)) (he : P.underlying e = some (.int .i64)) (hc : P.cellsOf e = 1)
    (h : DataW.trod enc P w 0 (fun _ => true) true fuel t [v] = some x) :
    ∃ (l : List Int) (y : Option Addr × Nat), v = .slice y.1 l.length y.2 ∧ (slA y.1 l).p (fun _ => False) w ∧ l.length ≤ B.one x.1 := by
  obtain ⟨l, y, h1, h2, h3, _⟩ := open_slice (α := Int) B.toBulk ht hc (by decide) (fun _ => 0) (fun n cs x hx => by
    obtain ⟨z, e1, e2, _⟩ := DataW.trod_int he hx
    refine ⟨z, (), e1, (fun a ha => by cases ha), ?_⟩
    rw [e2]
    simp only
    rw [B.int]; exact Nat.le_refl _) h
  refine ⟨l, y, h1, h2, ?_⟩
  have e6 : ∀ l : List Int, (l.map fun _ => 0).sum = 0 := by
    intro l
    induction l with
    | nil => rfl
    | cons x l ih => simp only [List.map_cons, List.sum_cons, ih]
  have := e6 l
  omega
end
end Go.Sx
end
section
set_option linter.unusedVariables false
set_option linter.unusedSimpArgs false
namespace Go.Sx
open Go
theorem flip_kind (p : Prim) : (p.flip.kind = 0 ↔ p.kind = 0) ∧ (p.flip.kind = 3 ↔ p.kind = 3) := by
  unfold Prim.flip
  split
  · simp_all
  · split
    · rename_i h0 h
      show (3 - p.kind = 0 ↔ p.kind = 0) ∧ (3 - p.kind = 3 ↔ p.kind = 3)
      omega
    · split
      · simp_all
      · simp_all
theorem flip_right (p : Prim) : p.flip.right = p.right := by
  obtain ⟨k, a, b, n, o, w⟩ := p
  unfold Prim.flip Prim.right Prim.bare
  by_cases h0 : k = 0
  · simp only [h0, if_true]
    rw [show decide (w = o) = decide (o = w) from by by_cases h : o = w <;> simp [h, eq_comm]]
    cases nameOk a <;> cases decide (b = ⟨#[]⟩) <;> cases decide (0 ≤ n) <;> cases decide (n ≤ 1048576) <;> cases o.all lineOk <;> cases w.all lineOk <;> simp
  · by_cases h1 : k = 1
    · simp [h1]
    · by_cases h2 : k = 2
      · simp [h2]
      · by_cases h3 : k = 3
        · simp only [h3]
          simp only [show ¬ ((3 : Int) = 0) by decide, show ¬ ((3 : Int) = 1 ∨ (3 : Int) = 2) by decide, if_true, if_false]
          rw [dcomm a b]
          cases nameOk a <;> cases nameOk b <;> simp
        · simp [h0, h1, h2, h3]
theorem flip0 {p : Prim} (h : p.kind = 0) : p.flip = { p with old := p.new, new := p.old } := by rw [Prim.flip, if_pos h]
theorem flip3 {p : Prim} (h : p.kind = 3) : p.flip = { p with name := p.to, to := p.name } := by rw [Prim.flip, if_neg (by omega), if_neg (by omega), if_pos h]
end Go.Sx
end
section
set_option linter.unusedVariables false
set_option linter.unusedSimpArgs false
namespace Go.Sx
open Go
def past1 (p : Prim) : List Prim → Option (List Prim × Prim)
  | [] => some ([], p)
  | q :: m => if (swap p q).2.2 = true then (past1 (swap p q).2.1 m).map fun r => ((swap p q).1 :: r.1, r.2) else none
def swapR : List Prim → List Prim → List Prim → Option (List Prim × List Prim)
  | [], first, second => some (first, second)
  | p :: l, first, second => (past1 p first).bind fun r => swapR l r.1 (r.2 :: second)
def swapL (l m : List Prim) : Option (List Prim × List Prim) := swapR l.reverse m []
def Pas (p : Prim) (m f : List Prim) (q : Prim) : Prop := past1 p m = some (f, q)
inductive Grid : List Prim → List Prim → List Prim → List Prim → Prop
  | nil {m} : Grid [] m m []
  | row {l p m n q f s} : Pas p m n q → Grid l n f s → Grid (l ++ [p]) m f (s ++ [q])
def pastT (p : Prim) (m : List Prim) : List Prim × Prim × Bool := match past1 p m with
  | some r => (r.1, r.2, true)
  | none => ([], Prim.zero, false)
def PI (p : Prim) (m : List Prim) (k : Nat) (f : List Prim) (p' : Prim) : Prop := past1 p m = (past1 p' (m.drop k)).map fun r => (f ++ r.1, r.2)
theorem PI.start (p : Prim) (m : List Prim) : PI p m 0 [] p := by
  unfold PI
  cases h : past1 p m <;> simp [h]
theorem PI.step {p p' a b : Prim} {m f : List Prim} {k : Nat} (h : PI p m k f p') (hk : k < m.length) (hs : (a, b, true) = swap p' m[k]) : PI p m (k + 1) (f ++ [a]) b := by
  unfold PI at *
  rw [h, List.drop_eq_getElem_cons hk, past1, ← hs]
  simp only [if_true]
  cases past1 b (m.drop (k + 1)) <;> simp
theorem PI.stop {p p' a b : Prim} {m f : List Prim} {k : Nat} (h : PI p m k f p') (hk : k < m.length) (hs : (a, b, false) = swap p' m[k]) : pastT p m = ([], Prim.zero, false) := by
  unfold PI at h
  unfold pastT
  rw [h, List.drop_eq_getElem_cons hk, past1, ← hs]
  rfl
theorem PI.done {p p' : Prim} {m f : List Prim} {k : Nat} (h : PI p m k f p') (hk : ¬ k < m.length) : pastT p m = (f, p', true) := by
  unfold PI at h
  unfold pastT
  rw [h, List.drop_eq_nil_of_le (by omega), past1]
  simp
end Go.Sx
end
section
set_option linter.unusedVariables false
namespace Go.Proofs.YtmikcpaaomamiaaGreatDoor.X
open Go Go.RowKit Go.Proofs Go.Sx
theorem zero_fit : Prim.zero.fit := ⟨by decide, by decide, by decide, by decide, (fun s h => by cases h), (fun s h => by cases h)⟩
theorem swap_fit {p q : Prim} (hp : p.fit) (hq : q.fit) : (swap p q).1.fit ∧ (swap p q).2.1.fit := by
  unfold swap
  split
  · exact swapped_fit hp hq
  · exact ⟨zero_fit, zero_fit⟩
theorem past1_ok : ∀ {m : List Prim} {p q : Prim} {f : List Prim}, past1 p m = some (f, q) → p.fit → (∀ x ∈ m, x.fit) → f.length = m.length ∧ q.fit ∧ ∀ x ∈ f, x.fit
  | [], p, q, f, h, hp, _ => by
    simp only [past1, Option.some.injEq, Prod.mk.injEq] at h
    obtain ⟨rfl, rfl⟩ := h
    exact ⟨rfl, hp, by simp⟩
  | x :: m, p, q, f, h, hp, hm => by
    rw [past1] at h
    split at h
    · rw [Option.map_eq_some_iff] at h
      obtain ⟨⟨r1, r2⟩, h1, h2⟩ := h
      simp only [Prod.mk.injEq] at h2
      obtain ⟨rfl, rfl⟩ := h2
      obtain ⟨e1, e2⟩ := swap_fit hp (hm x (by simp))
      obtain ⟨k1, k2, k3⟩ := past1_ok h1 e2 (fun y hy => hm y (by simp [hy]))
      refine ⟨by simp [k1], k2, fun y hy => ?_⟩
      rcases List.mem_cons.1 hy with rfl | hy
      · exact e1
      · exact k3 y hy
    · cases h
theorem pastT_true {p q : Prim} {m f : List Prim} (h : (f, q, true) = pastT p m) : past1 p m = some (f, q) := by
  unfold pastT at h
  cases hh : past1 p m with
  | none => rw [hh] at h; simp at h
  | some r => rw [hh] at h; simp only [Prod.mk.injEq, and_true] at h; rw [h.1, h.2]
theorem pastT_false {p q : Prim} {m f : List Prim} (h : (f, q, false) = pastT p m) : past1 p m = none := by
  unfold pastT at h
  cases hh : past1 p m with
  | none => rfl
  | some r => rw [hh] at h; simp at h
def swT (l m : List Prim) : List Prim × List Prim × Bool := match swapL l m with
  | some r => (r.1, r.2, true)
  | none => ([], [], false)
structure SI (l m : List Prim) (j : Nat) (f s : List Prim) : Prop where
  eq : swapL l m = swapR (l.reverse.drop j) f s
  fl : f.length = m.length
  sl : s.length = j
  ff : ∀ x ∈ f, x.fit
  fs : ∀ x ∈ s, x.fit
theorem SI.start {l m : List Prim} (h : ∀ x ∈ m, x.fit) : SI l m 0 m [] := ⟨rfl, rfl, rfl, h, by simp⟩
theorem rev_drop {α : Type} {l : List α} {j k : Nat} (h : k + j + 1 = l.length) : l.reverse.drop j = l[k] :: l.reverse.drop (j + 1) := by
  have hj : j < l.reverse.length := by simp; omega
  rw [List.drop_eq_getElem_cons hj, List.getElem_reverse]
  congr 2
  omega
theorem SI.step {l m f s f' : List Prim} {j k : Nat} {q : Prim} (h : SI l m j f s) (hk : k + j + 1 = l.length) (hl : ∀ x ∈ l, x.fit) (hp : (f', q, true) = pastT l[k] f) : SI l m (j + 1) f' (q :: s) := by
  have h1 := pastT_true hp
  obtain ⟨k1, k2, k3⟩ := past1_ok h1 (hl _ (List.getElem_mem _)) h.ff
  refine ⟨?_, k1.trans h.fl, by simp [h.sl], k3, fun y hy => ?_⟩
  · rw [h.eq, rev_drop hk, swapR, h1]; rfl
  · rcases List.mem_cons.1 hy with rfl | hy
    · exact k2
    · exact h.fs y hy
theorem SI.stop {l m f s f' : List Prim} {j k : Nat} {q : Prim} (h : SI l m j f s) (hk : k + j + 1 = l.length) (hp : (f', q, false) = pastT l[k] f) : swT l m = ([], [], false) := by
  unfold swT
  rw [h.eq, rev_drop hk, swapR, pastT_false hp]; rfl
theorem SI.done {l m f s : List Prim} {j : Nat} (h : SI l m j f s) (hj : j = l.length) : swT l m = (f, s, true) := by
  unfold swT
  rw [h.eq, List.drop_eq_nil_of_le (by simp; omega), swapR]
end Go.Proofs.YtmikcpaaomamiaaGreatDoor.X
end
section
set_option linter.unusedVariables false
set_option linter.unusedSimpArgs false
namespace Go.Sx
open Go Go.RowKit Go.Proofs.YtmikcpaaomamiaaGreatDoor.X
def invL (l : List Prim) : List Prim := l.reverse.map Prim.flip
theorem swapR_app : ∀ (a : List Prim) {b m s : List Prim}, swapR (a ++ b) m s = (swapR a m s).bind fun r => swapR b r.1 r.2
  | [], b, m, s => rfl
  | p :: a, b, m, s => by
    rw [List.cons_append, swapR, swapR]
    cases past1 p m with
    | none => rfl
    | some r => simp only [Option.bind_some]; exact swapR_app a
theorem swapR_fst : ∀ (a : List Prim) {m s s' : List Prim}, (swapR a m s).map (·.1) = (swapR a m s').map (·.1)
  | [], m, s, s' => rfl
  | p :: a, m, s, s' => by
    rw [swapR, swapR]
    cases past1 p m with
    | none => rfl
    | some r => simp only [Option.bind_some]; exact swapR_fst a
def reb (l m : List Prim) : Option (List Prim) := (swapL (invL l) m).map (·.1)
theorem reb_eq (l m : List Prim) : reb l m = (swapR (l.map Prim.flip) m []).map (·.1) := by
  unfold reb swapL invL
  rw [← List.map_reverse, List.reverse_reverse]
theorem reb_nil (m : List Prim) : reb [] m = some m := by rw [reb_eq]; rfl
theorem reb_app (a b m : List Prim) : reb (a ++ b) m = (reb a m).bind (reb b) := by
  rw [reb_eq, reb_eq, List.map_append, swapR_app]
  cases h : swapR (a.map Prim.flip) m [] with
  | none => rfl
  | some r =>
    simp only [Option.bind_some, Option.map_some]
    rw [reb_eq]
    exact swapR_fst _
def rebT (l m : List Prim) : List Prim × Bool := match reb l m with
  | some r => (r, true)
  | none => ([], false)
theorem rebT_true {l m r : List Prim} (h : (r, true) = rebT l m) : reb l m = some r := by
  unfold rebT at h
  split at h
  · rename_i e; cases h; exact e
  · cases h
theorem rebT_false {l m r : List Prim} (h : (r, false) = rebT l m) : reb l m = none ∧ r = [] := by
  unfold rebT at h
  split at h
  · cases h
  · rename_i e; cases h; exact ⟨e, rfl⟩
theorem flipFit {p : Prim} (h : p.fit) : p.flip.fit := by
  obtain ⟨h1, h2, h3, h4, h5, h6⟩ := h
  unfold Prim.flip
  split
  · exact ⟨h2, h1, h3, h4, h6, h5⟩
  · split
    · exact ⟨h1, h2, h3, h4, h5, h6⟩
    · split <;> first | exact ⟨h1, h2, h4, h3, h5, h6⟩ | exact ⟨h1, h2, h3, h4, h5, h6⟩
/-! ### rows in a ring -/
abbrev Ent := List Prim × Option Addr × Nat
def Ent.v (e : Ent) : Value := .slice e.2.1 e.1.length e.2.2
structure Ring where
  ver : Int
  many : Int
  rg : List Ent
def Ring.cells (r : Ring) : List Value := .int .i64 r.ver :: .int .i64 r.many :: r.rg.map Ent.v
structure RI (V : Nat) (rows : List (List Prim)) (r : Ring) : Prop where
  ver : r.ver = ((V + rows.length : Nat) : Int)
  many : r.many = ((min rows.length 64 : Nat) : Int)
  len : r.rg.length = 64
  row : ∀ i, (hi : i < rows.length) → rows.length ≤ i + 64 → ∃ A c, r.rg[(V + i + 1) % 64]? = some (rows[i], A, c)
  sm : ∀ e ∈ r.rg, e.1.length ≤ 2000000 ∧ ∀ x ∈ e.1, x.fit
def Ring.zero (V : Nat) : Ring := ⟨V, 0, List.replicate 64 ([], none, 0)⟩
theorem RI.zero (V : Nat) : RI V [] (Ring.zero V) := by
  refine ⟨rfl, rfl, rfl, fun i hi => by simp at hi, fun e he => ?_⟩
  have := List.eq_of_mem_replicate he
  subst this
  simp
def Ring.add (r : Ring) (j : Nat) (e : Ent) : Ring := ⟨r.ver + 1, min (r.many + 1) 64, r.rg.set j e⟩
theorem RI.add {V : Nat} {rows : List (List Prim)} {r : Ring} (h : RI V rows r) {l : List Prim} {A : Option Addr} {c : Nat} (hl : l.length ≤ 2000000) (hf : ∀ x ∈ l, x.fit) :
    RI V (rows ++ [l]) (r.add ((V + rows.length + 1) % 64) (l, A, c)) := by
  have h64 := h.len
  refine ⟨?_, ?_, ?_, ?_, ?_⟩
  · simp only [Ring.add, h.ver, List.length_append, List.length_singleton]; omega
  · simp only [Ring.add, h.many, List.length_append, List.length_singleton]; omega
  · simp only [Ring.add, List.length_set, h64]
  · intro i hi hle
    rw [List.length_append, List.length_singleton] at hi hle
    simp only [Ring.add]
    rcases Nat.lt_or_eq_of_le (Nat.le_of_lt_succ hi) with hlt | rfl
    · obtain ⟨A', c', e⟩ := h.row i hlt (by omega)
      refine ⟨A', c', ?_⟩
      rw [List.getElem?_set_ne (by omega), e, List.getElem_append_left hlt]
    · refine ⟨A, c, ?_⟩
      rw [List.getElem?_set_self (by omega), List.getElem_append_right (Nat.le_refl _)]
      simp
  · intro e he
    rcases List.mem_or_eq_of_mem_set he with he | rfl
    · exact h.sm e he
    · exact ⟨hl, hf⟩
theorem swapR_ok : ∀ (a : List Prim) {m s f t : List Prim}, swapR a m s = some (f, t) → (∀ x ∈ a, x.fit) → (∀ x ∈ m, x.fit) → f.length = m.length ∧ ∀ x ∈ f, x.fit
  | [], m, s, f, t, h, _, hm => by
    rw [swapR] at h; cases h; exact ⟨rfl, hm⟩
  | p :: a, m, s, f, t, h, ha, hm => by
    rw [swapR, Option.bind_eq_some_iff] at h
    obtain ⟨⟨f1, q⟩, h1, h2⟩ := h
    obtain ⟨k1, k2, k3⟩ := past1_ok h1 (ha p List.mem_cons_self) hm
    obtain ⟨k4, k5⟩ := swapR_ok a h2 (fun x hx => ha x (List.mem_cons_of_mem _ hx)) k3
    exact ⟨k4.trans k1, k5⟩
theorem reb_ok {l m f : List Prim} (h : reb l m = some f) (hl : ∀ x ∈ l, x.fit) (hm : ∀ x ∈ m, x.fit) : f.length = m.length ∧ ∀ x ∈ f, x.fit := by
  rw [reb_eq, Option.map_eq_some_iff] at h
  obtain ⟨⟨f', t⟩, h1, rfl⟩ := h
  refine swapR_ok _ h1 (fun x hx => ?_) hm
  rw [List.mem_map] at hx
  obtain ⟨y, hy, rfl⟩ := hx
  exact flipFit (hl y hy)
structure RbI (rows : List (List Prim)) (q j : Nat) (m f : List Prim) : Prop where
  eq : reb (rows.drop q).flatten m = reb (rows.drop (q + j)).flatten f
  len : f.length = m.length
  fit : ∀ x ∈ f, x.fit
theorem RbI.start {rows : List (List Prim)} {q : Nat} {m : List Prim} (hm : ∀ x ∈ m, x.fit) : RbI rows q 0 m m := ⟨rfl, rfl, hm⟩
theorem RbI.split {rows : List (List Prim)} {q j : Nat} {m f : List Prim} (h : RbI rows q j m f) (hk : q + j < rows.length) : reb (rows.drop q).flatten m = (reb rows[q + j] f).bind (reb (rows.drop (q + (j + 1))).flatten) := by
  rw [h.eq, List.drop_eq_getElem_cons hk, List.flatten_cons, reb_app]
  rfl
theorem RbI.step {rows : List (List Prim)} {q j : Nat} {m f g : List Prim} (h : RbI rows q j m f) (hk : q + j < rows.length) (hf : ∀ x ∈ rows[q + j], x.fit) (hr : (g, true) = rebT rows[q + j] f) : RbI rows q (j + 1) m g := by
  have h1 := rebT_true hr
  obtain ⟨k1, k2⟩ := reb_ok h1 hf h.fit
  exact ⟨by rw [h.split hk, h1]; rfl, k1.trans h.len, k2⟩
theorem RbI.stop {rows : List (List Prim)} {q j : Nat} {m f g : List Prim} (h : RbI rows q j m f) (hk : q + j < rows.length) (hr : (g, false) = rebT rows[q + j] f) : reb (rows.drop q).flatten m = none := by
  rw [h.split hk, (rebT_false hr).1]; rfl
theorem RbI.done {rows : List (List Prim)} {q j : Nat} {m f : List Prim} (h : RbI rows q j m f) (hk : rows.length ≤ q + j) : reb (rows.drop q).flatten m = some f := by
  rw [h.eq, List.drop_eq_nil_of_le hk]; exact reb_nil f
end Go.Sx
end
section
set_option linter.unusedVariables false
set_option linter.unusedSimpArgs false
namespace Go.Proofs.YtmikcpaaomamiaaGreatDoor.X
open Go Go.RowKit Go.Proofs Go.Sx Go.Joins Go.ChangeShapes Go.WideShapes Go.Deep
section
variable {H : Type} {enc : TypeId × Value → H} {P : Program} {w : World}
structure PrTys (P : Program) (tp : TypeId) : Prop where
  ex : ∃ (g0 g1 g2 g3 g4 g5 : Field) (es : TypeId),
    P.underlying tp = some (.struct #[g0, g1, g2, g3, g4, g5]) ∧ oneCellFields P #[g0, g1, g2, g3, g4, g5] = true ∧ P.cellsOf tp = 6 ∧
    P.underlying g0.type = some (.int .i64) ∧ P.underlying g1.type = some .string ∧ P.underlying g2.type = some .string ∧ P.underlying g3.type = some (.int .i64) ∧ P.underlying g4.type = some (.slice es) ∧ P.underlying g5.type = some (.slice es) ∧ P.underlying es = some .string ∧ P.cellsOf es = 1
structure ByTys (P : Program) (t tp : TypeId) : Prop where
  ex : ∃ f0 f1 : Field, P.underlying t = some (.struct #[f0, f1]) ∧ oneCellFields P #[f0, f1] = true ∧ P.cellsOf t = 2 ∧ P.underlying f0.type = some (.int .i64) ∧ P.underlying f1.type = some (.slice tp)
end
end Go.Proofs.YtmikcpaaomamiaaGreatDoor.X
end
section
set_option linter.unusedVariables false
set_option linter.unusedSimpArgs false
namespace Go.Sx
open Go Go.RowKit Go.MapKept
/-! Files, rising by name: what a tree's map holds. -/
def kl (a b : ByteArray) : Prop := ofB a < ofB b
instance (a b : ByteArray) : Decidable (kl a b) := inferInstanceAs (Decidable (ofB a < ofB b))
theorem ofB_inj {a b : ByteArray} (h : ofB a = ofB b) : a = b := by
  have : toB (ofB a) = toB (ofB b) := by rw [h]
  simpa [toB_ofB] using this
theorem kl_irrefl (a : ByteArray) : ¬ kl a a := List.lt_irrefl _
theorem kl_trans {a b c : ByteArray} (h : kl a b) (k : kl b c) : kl a c := List.lt_trans h k
theorem kl_ne {a b : ByteArray} (h : kl a b) : a ≠ b := fun e => kl_irrefl b (e ▸ h)
theorem kl_tri {a b : ByteArray} (h : ¬ kl a b) (k : ¬ kl b a) : a = b := ofB_inj (List.le_antisymm (List.not_lt.1 k) (List.not_lt.1 h))
abbrev File := ByteArray × List ByteArray
def Sor (T : List File) : Prop := T.Pairwise fun a b => kl a.1 b.1
def getT (T : List File) (k : ByteArray) : Option (List ByteArray) := (T.find? fun x => decide (x.1 = k)).map (·.2)
def getL (T : List File) (k : ByteArray) : List ByteArray := (getT T k).getD []
def hasT (T : List File) (k : ByteArray) : Bool := (getT T k).isSome
def delT (T : List File) (k : ByteArray) : List File := T.filter fun x => decide (x.1 ≠ k)
def putT (T : List File) (k : ByteArray) (l : List ByteArray) : List File :=
  (delT T k).filter (fun x => decide (kl x.1 k)) ++ (k, l) :: (delT T k).filter (fun x => decide (kl k x.1))
theorem Sor.nil : Sor [] := List.Pairwise.nil
theorem Sor.keys {T : List File} (h : Sor T) : (T.map (·.1)).Nodup := by
  unfold List.Nodup
  rw [List.pairwise_map]
  exact h.imp fun h => kl_ne h
theorem Sor.key_eq {T : List File} (h : Sor T) {x y : File} (hx : x ∈ T) (hy : y ∈ T) (e : x.1 = y.1) : x = y := by
  induction T with
  | nil => cases hx
  | cons z T ih =>
    obtain ⟨h1, h2⟩ := List.pairwise_cons.1 h
    rcases List.mem_cons.1 hx with rfl | hx'
    · rcases List.mem_cons.1 hy with rfl | hy'
      · rfl
      · exact absurd e (kl_ne (h1 y hy'))
    · rcases List.mem_cons.1 hy with rfl | hy'
      · exact absurd e.symm (kl_ne (h1 x hx'))
      · exact ih h2 hx' hy'
theorem mem_delT {T : List File} {k : ByteArray} {x : File} : x ∈ delT T k ↔ x ∈ T ∧ x.1 ≠ k := by simp [delT]
theorem mem_putT {T : List File} {k : ByteArray} {l : List ByteArray} {x : File} : x ∈ putT T k l ↔ x = (k, l) ∨ (x ∈ T ∧ x.1 ≠ k) := by
  simp only [putT, List.mem_append, List.mem_cons, List.mem_filter, mem_delT, decide_eq_true_eq]
  constructor
  · rintro (h | h | h)
    · exact .inr h.1
    · exact .inl h
    · exact .inr h.1
  · rintro (h | h)
    · exact .inr (.inl h)
    · by_cases h1 : kl x.1 k
      · exact .inl ⟨h, h1⟩
      · exact .inr (.inr ⟨h, Classical.byContradiction fun h2 => h.2 (kl_tri h1 h2)⟩)
theorem Sor.del {T : List File} (h : Sor T) (k : ByteArray) : Sor (delT T k) := List.Pairwise.filter _ h
theorem Sor.put {T : List File} (h : Sor T) (k : ByteArray) (l : List ByteArray) : Sor (putT T k l) := by
  refine List.pairwise_append.2 ⟨(h.del k).filter _, List.pairwise_cons.2 ⟨fun x hx => ?_, (h.del k).filter _⟩, fun x hx y hy => ?_⟩
  · simpa using (List.mem_filter.1 hx).2
  · have h1 : kl x.1 k := by simpa using (List.mem_filter.1 hx).2
    rcases List.mem_cons.1 hy with rfl | hy
    · exact h1
    · exact kl_trans h1 (by simpa using (List.mem_filter.1 hy).2)
theorem getT_some {T : List File} (h : Sor T) {k : ByteArray} {l : List ByteArray} : getT T k = some l ↔ (k, l) ∈ T := by
  unfold getT
  constructor
  · intro e
    obtain ⟨x, hx, rfl⟩ := Option.map_eq_some_iff.1 e
    have h1 := List.mem_of_find?_eq_some hx
    have h2 : x.1 = k := by simpa using List.find?_some hx
    subst h2; exact h1
  · intro hm
    cases e : T.find? (fun x => decide (x.1 = k)) with
    | none =>
      have := List.find?_eq_none.1 e (k, l) hm
      simp at this
    | some x =>
      have h1 := List.mem_of_find?_eq_some e
      have h2 : x.1 = k := by simpa using List.find?_some e
      rw [h.key_eq h1 hm h2]; rfl
theorem getT_none {T : List File} {k : ByteArray} : getT T k = none ↔ ∀ x ∈ T, x.1 ≠ k := by
  simp [getT]
theorem hasT_iff {T : List File} {k : ByteArray} : hasT T k = true ↔ ∃ x ∈ T, x.1 = k := by
  unfold hasT
  rw [Option.isSome_iff_ne_none, Ne, getT_none]
  simp
theorem Sor.nodup {T : List File} (hT : Sor T) : T.Nodup := by
  unfold List.Nodup
  exact List.Pairwise.imp (R := fun a b : File => kl a.1 b.1) (S := fun a b => a ≠ b) (fun h e => kl_ne h (congrArg Prod.fst e)) hT
theorem sor_ext {T U : List File} (hT : Sor T) (hU : Sor U) (h : ∀ x, x ∈ T ↔ x ∈ U) : T = U := by
  have nT := hT.nodup
  have nU := hU.nodup
  exact List.Perm.eq_of_pairwise (le := fun a b : File => kl a.1 b.1) (fun a b _ _ h1 h2 => absurd (kl_trans h1 h2) (kl_irrefl _)) hT hU ((List.perm_ext_iff_of_nodup nT nU).2 h)
end Go.Sx
end
section
set_option linter.unusedVariables false
set_option linter.unusedSimpArgs false
namespace Go.Sx
open Go Go.RowKit Go.MapKept
/-! A map of files, which is somebody's own. -/
structure EntOk (M : Nat → Prop) (w : World) (e : MapEntry) (x : File) : Prop where
  key : e.key = .string x.1
  val : ∃ y : Option Addr × Nat, e.val = .slice y.1 x.2.length y.2 ∧ (slA y.1 x.2).p M w ∧ (nilA y).p M w
structure MapIs (M : Nat → Prop) (w : World) (T : List File) (es : Array MapEntry) (clock : Nat) : Prop where
  stamped : Stamped es clock
  so : Sor T
  ent : ∀ e ∈ es.toList, ∃ x ∈ T, EntOk M w e x
  cov : ∀ x ∈ T, ∃ e ∈ es.toList, e.key = .string x.1
theorem EntOk.st {M M' : Nat → Prop} {w w' : World} {e : MapEntry} {x : File} (h : EntOk M w e x) (hb : ∀ b, b < w.heap.size → ¬ M b → w'.heap[b]? = w.heap[b]?) (hm : ∀ b, b < w.heap.size → M' b → M b) (hs : w.heap.size ≤ w'.heap.size) : EntOk M' w' e x := by
  obtain ⟨y, h1, h2, h3⟩ := h.val
  exact ⟨h.key, y, h1, (slA y.1 x.2).st _ _ _ _ h2 hb hm hs, (nilA y).st _ _ _ _ h3 hb hm hs⟩
theorem MapIs.st {M M' : Nat → Prop} {w w' : World} {T : List File} {es : Array MapEntry} {clock : Nat} (h : MapIs M w T es clock) (hb : ∀ b, b < w.heap.size → ¬ M b → w'.heap[b]? = w.heap[b]?) (hm : ∀ b, b < w.heap.size → M' b → M b) (hs : w.heap.size ≤ w'.heap.size) : MapIs M' w' T es clock :=
  ⟨h.stamped, h.so, fun e he => (h.ent e he).imp fun x hx => ⟨hx.1, hx.2.st hb hm hs⟩, h.cov⟩
section
variable {M : Nat → Prop} {w : World} {T : List File} {es es' : Array MapEntry} {clock clock' : Nat} {k : ByteArray} {l : List ByteArray}
theorem key_inj {a b : ByteArray} (h : Value.string a = Value.string b) : a = b := by injection h
theorem MapIs.nil : MapIs M w [] #[] 0 := ⟨stamped_empty 0, Sor.nil, fun e he => by simp at he, fun x hx => by simp at hx⟩
theorem MapIs.size (h : MapIs M w T es clock) : es.size = T.length := by
  have h1 : (es.toList.map (·.key)).Perm (T.map fun x => Value.string x.1) := by
    refine (List.perm_ext_iff_of_nodup h.stamped.2.2 ?_).2 fun v => ?_
    · have := h.so.keys
      unfold List.Nodup at this ⊢
      rw [List.pairwise_map] at this ⊢
      exact this.imp fun {a b} hab e => hab (key_inj e)
    · simp only [List.mem_map]
      constructor
      · rintro ⟨e, he, rfl⟩
        obtain ⟨x, hx, hk⟩ := h.ent e he
        exact ⟨x, hx, hk.key.symm⟩
      · rintro ⟨x, hx, rfl⟩
        exact h.cov x hx
  have := h1.length_eq
  simpa using this
theorem MapIs.put (h : MapIs M w T es clock) (hst : Stamped es' clock') (hin : ∀ e ∈ es'.toList, (e ∈ es.toList ∧ e.key ≠ .string k) ∨ EntOk M w e (k, l)) (hk : ∃ e ∈ es'.toList, e.key = .string k)
    (hold : ∀ e ∈ es.toList, e.key ≠ .string k → e ∈ es'.toList) : MapIs M w (putT T k l) es' clock' where
  stamped := hst
  so := h.so.put k l
  ent := fun e he => by
    rcases hin e he with ⟨h1, h2⟩ | h1
    · obtain ⟨x, hx, hx2⟩ := h.ent e h1
      exact ⟨x, mem_putT.2 (.inr ⟨hx, fun e' => h2 (by rw [hx2.key, e'])⟩), hx2⟩
    · exact ⟨(k, l), mem_putT.2 (.inl rfl), h1⟩
  cov := fun x hx => by
    rcases mem_putT.1 hx with rfl | ⟨h1, h2⟩
    · exact hk
    · obtain ⟨e, he, hke⟩ := h.cov x h1
      exact ⟨e, hold e he (by rw [hke]; exact fun e' => h2 (key_inj e')), hke⟩
theorem MapIs.del (h : MapIs M w T es clock) (hst : Stamped es' clock') (hin : ∀ e ∈ es'.toList, e ∈ es.toList ∧ e.key ≠ .string k) (hold : ∀ e ∈ es.toList, e.key ≠ .string k → e ∈ es'.toList) : MapIs M w (delT T k) es' clock' where
  stamped := hst
  so := h.so.del k
  ent := fun e he => by
    obtain ⟨h1, h2⟩ := hin e he
    obtain ⟨x, hx, hx2⟩ := h.ent e h1
    exact ⟨x, mem_delT.2 ⟨hx, fun e' => h2 (by rw [hx2.key, e'])⟩, hx2⟩
  cov := fun x hx => by
    obtain ⟨h1, h2⟩ := mem_delT.1 hx
    obtain ⟨e, he, hke⟩ := h.cov x h1
    exact ⟨e, hold e he (by rw [hke]; exact fun e' => h2 (key_inj e')), hke⟩
end
section
variable {M0 F0 : Nat → Prop} {w0 w w' : World} {Ξ : List Xsn} {Γ : List Asn} {Fs : List (Nat → Prop)}
end
section
variable {ro : Option Nat} {P : Program} {M0 F0 : Nat → Prop} {w0 : World} {n : Nm} {σ : List (Nat × Value)} {Ξ : List Xsn} {Γ : List Asn} {d : Nat} {ty : TypeId} {pos : String} {af : Array Edge}
variable {ops : Array Oper} {Q : Exit → Act → World → Prop} {S S' : Act → World → Prop}
end
end Go.Sx
end
section
set_option linter.unusedVariables false
set_option linter.unusedSimpArgs false
namespace Go.Sx
open Go Go.RowKit Go.MapKept
def capA (c n : Nat) : Asn where
  p _ _ := n ≤ c
  st := fun _ _ _ _ h _ _ _ => h
section
variable {ro : Option Nat} {P : Program} {M0 F0 : Nat → Prop} {w0 : World} {n : Nm} {σ : List (Nat × Value)} {Ξ : List Xsn} {Γ : List Asn} {d : Nat} {ty : TypeId} {pos : String} {af : Array Edge}
variable {ops : Array Oper} {Q : Exit → Act → World → Prop} {S S' : Act → World → Prop}
theorem freezeN {α : Type} [Rp α] {e : TypeId} {A : Option Addr} {c : Nat} {l : List α} {i : Nat} {Ξ' : List Xsn} {a : Act} {w : World} (hi : takeAt i Ξ = some (row e A c l, Ξ')) (h : St M0 F0 w0 n σ Ξ Γ a w) : St M0 F0 w0 n σ Ξ' (slA A l :: nilA (A, c) :: capA c l.length :: Γ) a w := by
  have hcp : l.length ≤ c := by
    obtain ⟨hs, Fs, hh⟩ := h
    obtain ⟨F, Fs', h1, ⟨xs, ho, hF, hr⟩, h3⟩ := hh.ex.takeAt hi
    rcases ho.2 with ⟨hv, h0⟩ | ⟨g, cap, cur, hv, _, _, h2, _⟩
    · omega
    · injection hv with _ _ h; omega
  have hn : A = none → c = 0 := by
    obtain ⟨hs, Fs, hh⟩ := h
    obtain ⟨F, Fs', h1, ⟨xs, ho, hF, hr⟩, h3⟩ := hh.ex.takeAt hi
    rcases ho.2 with ⟨hv, _⟩ | ⟨g, cap, cur, hv, _⟩
    · injection hv with _ _ h; exact fun _ => h
    · injection hv with h _ _; intro e; rw [e] at h; cases h
  obtain ⟨hs, Fs, hh⟩ := freeze hi h
  refine ⟨hs, Fs, { hh with ga := fun p hp => ?_ }⟩
  rcases List.mem_cons.1 hp with rfl | hp
  · exact hh.ga _ (by simp)
  · rcases List.mem_cons.1 hp with rfl | hp
    · exact hn
    · rcases List.mem_cons.1 hp with rfl | hp
      · exact hcp
      · exact hh.ga p (by simp [hp])
theorem St.cap {c m i : Nat} (hi : At (capA c m) i Γ) : ∀ a w, St M0 F0 w0 n σ Ξ Γ a w → m ≤ c := fun a w ⟨_, Fs, hh⟩ => hh.ga _ (List.mem_of_getElem? hi.get)
end
end Go.Sx
end
section
set_option linter.unusedVariables false
set_option linter.unusedSimpArgs false
namespace Go.Sx
open Go Go.RowKit Go.Proofs
section
variable {ro : Option Nat} {P : Program} {M0 F0 : Nat → Prop} {w0 : World} {n : Nm} {σ : List (Nat × Value)} {Ξ : List Xsn} {Γ : List Asn} {d : Nat} {ty : TypeId} {pos : String} {af : Array Edge}
variable {ops : Array Oper} {Q : Exit → Act → World → Prop} {S S' : Act → World → Prop}
end
end Go.Sx
end
section
set_option linter.unusedVariables false
set_option linter.unusedSimpArgs false
namespace Go.Sx
open Go Go.RowKit
/-! Files and calls as data; what calls make of a tree. -/
instance instRpFile : Rp (ByteArray × List ByteArray) where
  Lay := Option Addr × Nat
  size := 2
  enc x y := [.string x.1, .slice y.1 x.2.length y.2]
  len _ _ := rfl
  one _ _ v hv := by
    simp only [List.mem_cons, List.mem_nil_iff, or_false] at hv
    rcases hv with rfl | rfl <;> rfl
  asn x y := [slA y.1 x.2, nilA y, capA y.2 x.2.length]
structure TOp where
  kind : Int
  name : ByteArray
  to : ByteArray
  l : List ByteArray
  deriving DecidableEq
instance instRpTOp : Rp TOp where
  Lay := Option Addr × Nat
  size := 4
  enc o y := [.int .i64 o.kind, .string o.name, .string o.to, .slice y.1 o.l.length y.2]
  len _ _ := rfl
  one _ _ v hv := by
    simp only [List.mem_cons, List.mem_nil_iff, or_false] at hv
    rcases hv with rfl | rfl | rfl | rfl <;> rfl
  asn o y := [slA y.1 o.l, nilA y]
def TOp.many (o : TOp) : Nat := o.name.size + o.to.size + o.l.length + sizes o.l
def omany (l : List TOp) : Nat := (l.map TOp.many).sum
def TOp.fit (o : TOp) : Prop := o.name.size ≤ 2000000 ∧ o.to.size ≤ 2000000 ∧ o.l.length ≤ 2000000 ∧ ∀ s ∈ o.l, s.size ≤ 2000000
def tAdd (T : List File) (k : ByteArray) : List File × Int := if nameOk k = false then (T, 20) else if hasT T k = true then (T, 21) else (putT T k [], 0)
def tRem (T : List File) (k : ByteArray) : List File × Int := if hasT T k = false then (T, 20) else if 0 < (getL T k).length then (T, 22) else (delT T k, 0)
def tMove (T : List File) (a b : ByteArray) : List File × Int := if hasT T a = false ∨ nameOk b = false then (T, 20) else if hasT T b = true then (T, 21) else (delT (putT T b (getL T a)) a, 0)
def tPut (T : List File) (k : ByteArray) (l : List ByteArray) : List File × Int := if hasT T k = false then (T, 20) else if l.all lineOk = false then (T, 1) else (putT T k l, 0)
def rMove (T : List File) (a b : ByteArray) : List File × Int := if hasT T a = false ∨ nameOk b = false then (T, 20) else if hasT T b = true then (T, 21) else (putT (delT T a) b (getL T a), 0)
def doT (T : List File) (o : TOp) : List File × Int :=
  if o.kind = 0 then tAdd T o.name else if o.kind = 1 then tRem T o.name else if o.kind = 2 then rMove T o.name o.to else if o.kind = 3 then tPut T o.name o.l else (T, 0)
def madeT (l : List TOp) : List File := l.foldl (fun T o => (doT T o).1) []
theorem move_eq {T : List File} (h : Sor T) (a b : ByteArray) : tMove T a b = rMove T a b := by
  unfold tMove rMove
  split
  · rfl
  · rename_i h1
    split
    · rfl
    · rename_i h2
      have hne : b ≠ a := fun e => by
        subst e
        exact h1 (.inl (by simpa using h2))
      rw [sor_ext ((h.put b _).del a) ((h.del a).put b _)]
      intro x
      simp only [mem_delT, mem_putT]
      constructor
      · rintro ⟨rfl | ⟨h3, h4⟩, h5⟩
        · exact .inl rfl
        · exact .inr ⟨⟨h3, h5⟩, h4⟩
      · rintro (rfl | ⟨⟨h3, h5⟩, h4⟩)
        · exact ⟨.inl rfl, hne⟩
        · exact ⟨.inr ⟨h3, h4⟩, h5⟩
theorem tAdd_sor {T : List File} (h : Sor T) (k) : Sor (tAdd T k).1 := by
  unfold tAdd; split; exact h; split; exact h; exact h.put _ _
theorem tRem_sor {T : List File} (h : Sor T) (k) : Sor (tRem T k).1 := by
  unfold tRem; split; exact h; split; exact h; exact h.del _
theorem rMove_sor {T : List File} (h : Sor T) (a b) : Sor (rMove T a b).1 := by
  unfold rMove; split; exact h; split; exact h; exact (h.del _).put _ _
theorem tPut_sor {T : List File} (h : Sor T) (k l) : Sor (tPut T k l).1 := by
  unfold tPut; split; exact h; split; exact h; exact h.put _ _
theorem doT_sor {T : List File} (h : Sor T) (o : TOp) : Sor (doT T o).1 := by
  unfold doT; split; exact tAdd_sor h _; split; exact tRem_sor h _; split; exact rMove_sor h _ _; split; exact tPut_sor h _ _; exact h
structure Tok (n m : Nat) (T : List File) : Prop where
  len : T.length ≤ n
  fit : ∀ x ∈ T, x.2.length ≤ m ∧ sizes x.2 ≤ m ∧ x.1.size ≤ m
theorem putT_len (T : List File) (k : ByteArray) (l : List ByteArray) : (putT T k l).length ≤ T.length + 1 := by
  unfold putT
  have h0 : (delT T k).length ≤ T.length := List.length_filter_le _ _
  have h3 : ∀ D : List File, (D.filter fun x => decide (kl x.1 k)).length + (D.filter fun x => decide (kl k x.1)).length ≤ D.length := by
    intro D
    induction D with
    | nil => simp
    | cons x D ih =>
      by_cases h1 : kl x.1 k
      · have h2 : ¬ kl k x.1 := fun h => kl_irrefl _ (kl_trans h1 h)
        simp only [List.filter_cons, h1, h2, decide_true, decide_false, if_true, if_false, List.length_cons]
        simp
        omega
      · by_cases h2 : kl k x.1
        · simp [List.filter_cons, h1, h2]; omega
        · simp [List.filter_cons, h1, h2]; omega
  have h5 := h3 (delT T k)
  rw [List.length_append, List.length_cons, ← Nat.add_assoc]
  exact Nat.succ_le_succ (Nat.le_trans h5 h0)
theorem sizes_mem1 {l : List ByteArray} {s : ByteArray} (h : s ∈ l) : s.size ≤ sizes l := by
  unfold sizes
  induction l with
  | nil => cases h
  | cons x l ih =>
    simp only [List.map_cons, List.sum_cons]
    rcases List.mem_cons.1 h with rfl | h
    · omega
    · have := ih h; omega
theorem Tok.get {n m : Nat} {T : List File} (h : Tok n m T) (k : ByteArray) : (getL T k).length ≤ m ∧ sizes (getL T k) ≤ m := by
  unfold getL getT
  cases e : T.find? (fun x => decide (x.1 = k)) with
  | none => simp [sizes]
  | some x => have := h.fit x (List.mem_of_find?_eq_some e); simpa using ⟨this.1, this.2.1⟩
theorem Tok.put {n m : Nat} {T : List File} (h : Tok n m T) {k : ByteArray} {l : List ByteArray} (hk : k.size ≤ m) (hl : l.length ≤ m) (hs : sizes l ≤ m) : Tok (n + 1) m (putT T k l) :=
  ⟨by have := putT_len T k l; have := h.len; omega, fun x hx => by
    rcases mem_putT.1 hx with rfl | ⟨h1, _⟩
    · exact ⟨hl, hs, hk⟩
    · exact h.fit x h1⟩
theorem Tok.del {n m : Nat} {T : List File} (h : Tok n m T) (k : ByteArray) : Tok n m (delT T k) :=
  ⟨Nat.le_trans (List.length_filter_le _ _) h.len, fun x hx => h.fit x (mem_delT.1 hx).1⟩
theorem Tok.mono {n m n' : Nat} {T : List File} (h : Tok n m T) (hn : n ≤ n') : Tok n' m T := ⟨Nat.le_trans h.len hn, h.fit⟩
theorem doT_tok {n m : Nat} {T : List File} (h : Tok n m T) (o : TOp) (ho : o.many ≤ m) : Tok (n + 1) m (doT T o).1 := by
  unfold TOp.many at ho
  have h1 := h.mono (Nat.le_succ n)
  unfold doT
  split
  · unfold tAdd; split; exact h1; split; exact h1; exact h.put (by omega) (by simp) (by simp [sizes])
  · split
    · unfold tRem; split; exact h1; split; exact h1; exact h1.del _
    · split
      · unfold rMove; split; exact h1; split; exact h1; have := h.get o.name; exact (h.del _).put (by omega) this.1 this.2
      · split
        · unfold tPut; split; exact h1; split; exact h1; exact h.put (by omega) (by omega) (by omega)
        · exact h1
theorem madeT_sor (l : List TOp) : Sor (madeT l) := by
  unfold madeT
  have : ∀ (l : List TOp) (T : List File), Sor T → Sor (l.foldl (fun T o => (doT T o).1) T) := by
    intro l
    induction l with
    | nil => exact fun T h => h
    | cons o l ih => exact fun T h => ih _ (doT_sor h o)
  exact this l [] Sor.nil
theorem madeT_tok {m : Nat} : ∀ {l : List TOp}, (∀ o ∈ l, o.many ≤ m) → Tok l.length m (madeT l) := by
  unfold madeT
  have : ∀ (l : List TOp) (T : List File) (n : Nat), (∀ o ∈ l, o.many ≤ m) → Tok n m T → Tok (n + l.length) m (l.foldl (fun T o => (doT T o).1) T) := by
    intro l
    induction l with
    | nil => exact fun T n _ h => h
    | cons o l ih =>
      intro T n ho h
      have := ih _ (n + 1) (fun o' h' => ho o' (by simp [h'])) (doT_tok h o (ho o (by simp)))
      simp only [List.length_cons]
      rw [show n + (l.length + 1) = n + 1 + l.length by omega]
      exact this
  intro l ho
  have := this l [] 0 ho ⟨by simp, fun x hx => by cases hx⟩
  simpa using this
theorem TOp.fit_of {o : TOp} (h : o.many ≤ 2000000) : o.fit := by
  unfold TOp.many at h
  exact ⟨by omega, by omega, by omega, fun s hs => by have := sizes_mem1 hs; omega⟩
theorem omany_mem {l : List TOp} {o : TOp} (h : o ∈ l) : o.many ≤ omany l := by
  unfold omany
  induction l with
  | nil => cases h
  | cons x l ih =>
    simp only [List.map_cons, List.sum_cons]
    rcases List.mem_cons.1 h with rfl | h
    · omega
    · have := ih h; omega
end Go.Sx
end
section
set_option linter.unusedVariables false
set_option linter.unusedSimpArgs false
namespace Go.Proofs.YtmikcpaaomamiaaGreatDoor.X
open Go Go.RowKit Go.Proofs Go.Sx Go.Joins Go.ChangeShapes Go.WideShapes Go.Deep
section
variable {H : Type} {enc : TypeId × Value → H} {P : Program} {w : World}
structure OpTys (P : Program) (t : TypeId) : Prop where
  ex : ∃ (f0 f1 f2 f3 : Field) (es : TypeId), P.underlying t = some (.struct #[f0, f1, f2, f3]) ∧ oneCellFields P #[f0, f1, f2, f3] = true ∧ P.cellsOf t = 4 ∧
    P.underlying f0.type = some (.int .i64) ∧ P.underlying f1.type = some .string ∧ P.underlying f2.type = some .string ∧ P.underlying f3.type = some (.slice es) ∧ P.underlying es = some .string ∧ P.cellsOf es = 1
end
end Go.Proofs.YtmikcpaaomamiaaGreatDoor.X
end
section
set_option linter.unusedVariables false
set_option linter.unusedSimpArgs false
namespace Go.Proofs.YtmikcpaaomamiaaGreatDoor.X
open Go Go.RowKit Go.Proofs Go.Sx Go.Joins Go.ChangeShapes Go.WideShapes Go.Deep
section
variable {H : Type} {enc : TypeId × Value → H} {P : Program} {w : World}
end
end Go.Proofs.YtmikcpaaomamiaaGreatDoor.X
end
section
set_option linter.unusedVariables false
set_option linter.unusedSimpArgs false
namespace Go.Proofs.YtmikcpaaomamiaaGreatDoor.X
open Go Go.RowKit Go.Proofs Go.Sx
open Tryz
attribute [local irreducible] slA isA box row TrL TrC TrN TrA Pu OpR
set_option maxHeartbeats 8000000
theorem TryzX.mixed : Tryz.prog.follows .mixedOrders = true := by kernel_rfl
set_option maxRecDepth 100000 in
theorem c_Equal (l m : List ByteArray) (A B : Option Addr) (c c' : Nat) (hl : l.length ≤ 2000000) : Con Tryz.prog 61 [.slice A l.length c, .slice B m.length c'] [] [slA A l, slA B m] Unit (fun _ => .bool (decide (l = m))) (fun _ => []) (fun _ => []) := by
 refine con func61 rfl ntmps61 rfl ?_
 intro M0 F0 w0
 refine k_ 15 ?_
 refine cc rfl ?_ ?_
 ·
  intro h10
  try simp only [nrmZ] at h10
  refine k_ 7 ?_
  refine rret (is := []) () (Or.inl rfl) (Res.t rfl Res.d) ?_ rfl Ω
  simp [packV]; intro e; rw [e] at h10; exact h10 rfl
 ·
  intro h10
  try simp only [nrmZ] at h10
  refine k_ 11 ?_
  refine cl (ι := {k : Nat // k ≤ l.length ∧ l.take k = m.take k}) (fun i => St M0 F0 w0 26 [(0, .slice A l.length c), (1, .slice B m.length c'), (12, .int .i64 (l.length : Int)), (13, .int .i64 (i.1 : Int))] [] [slA A l, slA B m]) (fun i => l.length - i.1) ⟨0, by simp⟩ (wk0 Φ Ω) ?_
  rintro ⟨k, hk, hkk⟩
  refine cmono (S' := St M0 F0 w0 26 [(0, .slice A l.length c), (1, .slice B m.length c'), (12, .int .i64 (l.length : Int)), (13, .int .i64 (k : Int))] [] [slA A l, slA B m]) Ħ ?_
  refine k_ 6 ?_
  refine cc rfl ?_ ?_
  ·
   intro h14
   try simp only [nrmZ] at h14
   have hk1 : k < l.length := by omega
   have hk2 : k < m.length := by omega
   refine k_ 11 ?_
   refine elC Θ k (List.getElem?_eq_getElem (l := l) hk1) ?_; rintro zbp zop zyp hAp
   refine elC Θ k (List.getElem?_eq_getElem (l := m) hk2) ?_; rintro zbq zoq zyq hAq
   refine cd [] [(3, zbp, zop + k * Rp.size ByteArray, _), (7, zbq, zoq + k * Rp.size ByteArray, _)] TryzX.mixed (TOk.t (isInS Θ (k := 0) rfl (z := 1) Δ) (TOk.t (isInS Θ (k := 0) rfl (z := 1) Δ) TOk.d)) ?_
   refine u_ 0 2 ?_
   refine tk 2 rfl Ψ Υ gnone (TTany _) (p_ia k hAp hk1 rfl underlying37 sizeOf9 rfl rfl) rfl ?_
   refine u_ 3 3 ?_
   refine tk 6 rfl Ψ Υ gnone (TTany _) (p_ia k hAq hk2 rfl underlying37 sizeOf9 rfl rfl) rfl ?_
   refine u_ 7 2 ?_
   refine dn Ψ ?_
   refine k_ 1 ?_
   refine cc rfl ?_ ?_
   ·
    intro h24
    try simp only [nrmZ] at h24
    refine k_ 7 ?_
    refine rret (is := []) () (Or.inl rfl) (Res.t rfl Res.d) ?_ rfl Ω
    simp [packV]; rintro rfl; exact h24 rfl
   ·
    intro h24
    try simp only [nrmZ] at h24
    refine k_ 7 ?_
    refine nnext ⟨k + 1, hk1, by rw [List.take_succ_eq_append_getElem hk1, List.take_succ_eq_append_getElem hk2, hkk, h24]⟩ (by dsimp only; omega) (wk0 Φ Ω)
  ·
   intro h14
   try simp only [nrmZ] at h14
   refine k_ 12 ?_
   refine rret (is := []) () (Or.inl rfl) (Res.t rfl Res.d) ?_ rfl Ω
   simp [packV]; have := List.take_of_length_le (l := l) (i := k) (by omega); have := List.take_of_length_le (l := m) (i := k) (by omega); simp_all
set_option maxRecDepth 100000 in
theorem c_lineSame (l m : List ByteArray) (A B : Option Addr) (c c' : Nat) (hl : l.length ≤ 2000000) : Con Tryz.prog 55 [.slice A l.length c, .slice B m.length c'] [] [slA A l, slA B m] Unit (fun _ => .bool (decide (l = m))) (fun _ => []) (fun _ => []) := by
 refine con func55 rfl ntmps55 rfl ?_
 intro M0 F0 w0
 refine k_ 9 ?_
 refine lC [] call61 (c_Equal l m A B c c' hl) ?_; intro x7
 refine k_ 5 ?_
 exact rR [] ()
end Go.Proofs.YtmikcpaaomamiaaGreatDoor.X
end
section
set_option linter.unusedVariables false
set_option linter.unusedSimpArgs false
namespace Go.Proofs.YtmikcpaaomamiaaGreatDoor.X
open Go Go.RowKit Go.Proofs Go.Sx
open Tryz
attribute [local irreducible] slA isA box row TrL TrC TrN TrA Pu OpR
set_option maxHeartbeats 8000000
set_option maxRecDepth 100000 in
theorem c_IndexFunc0 (l : List ByteArray) (A : Option Addr) (c : Nat) (hl : l.length ≤ 2000000) (f : ByteArray → Bool) (g : FuncId) (cap : List Value) (Γf : List Asn) (hcf : ∀ args w, (callFunc g args).run Tryz.prog w = .ok (.enter g args) w) (hg : ∀ s ∈ l, Con Tryz.prog g (.string s :: cap) [] Γf Unit (fun _ => .bool (f s)) (fun _ => []) (fun _ => [])) : Con Tryz.prog 79 [.slice A l.length c, .func (.func g) #[] cap.toArray] [] (slA A l :: Γf) {r : Int // -1 ≤ r ∧ r ≤ 2000000 ∧ (0 ≤ r ↔ l.any f = true)} (fun r => .int .i64 r.1) (fun _ => []) (fun _ => []) := by
 refine con func79 rfl ntmps79 rfl ?_
 intro M0 F0 w0
 refine k_ 14 ?_
 refine cl (ι := {k : Nat // k ≤ l.length ∧ (l.take k).any f = false}) (fun i => St M0 F0 w0 19 [(0, .slice A l.length c), (1, .func (.func g) #[] cap.toArray), (7, .int .i64 (l.length : Int)), (8, .int .i64 (i.1 : Int))] [] (slA A l :: Γf)) (fun i => l.length - i.1) ⟨0, by simp⟩ (wk0 Φ Ω) ?_
 rintro ⟨k, hk, hkk⟩
 refine cmono (S' := St M0 F0 w0 19 [(0, .slice A l.length c), (1, .func (.func g) #[] cap.toArray), (7, .int .i64 (l.length : Int)), (8, .int .i64 (k : Int))] [] (slA A l :: Γf)) Ħ ?_
 refine k_ 6 ?_
 refine cc rfl ?_ ?_
 ·
  intro h9
  try simp only [nrmZ] at h9
  have hk1 : k < l.length := by omega
  refine k_ 11 ?_
  refine elC Θ k (List.getElem?_eq_getElem (l := l) hk1) ?_; rintro zbp zop zyp hAp
  refine k_ 4 ?_
  refine ls (op (p_ia k hAp hk1 rfl underlying37 sizeOf9 rfl rfl) rfl) ?_
  refine ls (o_ldi isAgg9 rfl Θ 0 rfl Δ rfl) ?_
  refine ls (o_callv (is := []) rfl hcf (hg _ (List.getElem_mem hk1)) rfl rfl rfl Ω rfl) ?_
  refine le ?_; intro x16
  refine k_ 2 ?_
  refine cc rfl ?_ ?_
  ·
   intro h16
   try simp only [nrmZ] at h16
   refine k_ 8 ?_
   exact rR [] ⟨(k : Int), by omega, by omega, by simp only [List.any_eq_true]; exact ⟨fun _ => ⟨_, List.getElem_mem hk1, h16⟩, fun _ => by omega⟩⟩
  ·
   intro h16
   try simp only [nrmZ] at h16
   refine k_ 7 ?_
   refine nnext ⟨k + 1, hk1, by rw [List.take_succ_eq_append_getElem hk1, List.any_append, hkk]; simp [h16]⟩ (by dsimp only; omega) (wk0 Φ Ω)
 ·
  intro h9
  try simp only [nrmZ] at h9
  refine k_ 12 ?_
  exact rR [] ⟨-1, by omega, by omega, by rw [List.take_of_length_le (by omega)] at hkk; simp [hkk]⟩
set_option maxRecDepth 100000 in
theorem c_ContainsFunc0 (l : List ByteArray) (A : Option Addr) (c : Nat) (hl : l.length ≤ 2000000) (f : ByteArray → Bool) (g : FuncId) (cap : List Value) (Γf : List Asn) (hcf : ∀ args w, (callFunc g args).run Tryz.prog w = .ok (.enter g args) w) (hg : ∀ s ∈ l, Con Tryz.prog g (.string s :: cap) [] Γf Unit (fun _ => .bool (f s)) (fun _ => []) (fun _ => [])) : Con Tryz.prog 64 [.slice A l.length c, .func (.func g) #[] cap.toArray] [] (slA A l :: Γf) Unit (fun _ => .bool (l.any f)) (fun _ => []) (fun _ => []) := by
 refine con func64 rfl ntmps64 rfl ?_
 intro M0 F0 w0
 refine k_ 9 ?_
 refine lC [] call79 (c_IndexFunc0 l A c hl f g cap Γf  hcf hg) ?_; rintro ⟨r, hr1, hr2, hr3⟩
 refine k_ 6 ?_
 refine rret (is := []) () (Or.inl rfl) (Res.t rfl Res.d) ?_ rfl Ω
 simp [packV]; rw [Bool.eq_iff_iff]; simp [← hr3]
set_option maxRecDepth 100000 in
theorem c_IndexFunc1 (l : List ByteArray) (A : Option Addr) (c : Nat) (hl : l.length ≤ 2000000) (f : ByteArray → Bool) (g : FuncId) (cap : List Value) (Γf : List Asn) (x : Xsn) (hcf : ∀ args w, (callFunc g args).run Tryz.prog w = .ok (.enter g args) w) (hg : ∀ s ∈ l, Con Tryz.prog g (.string s :: cap) [x] Γf Unit (fun _ => .bool (f s)) (fun _ => [x]) (fun _ => [])) : Con Tryz.prog 79 [.slice A l.length c, .func (.func g) #[] cap.toArray] [x] (slA A l :: Γf) {r : Int // -1 ≤ r ∧ r ≤ 2000000 ∧ (0 ≤ r ↔ l.any f = true)} (fun r => .int .i64 r.1) (fun _ => [x]) (fun _ => []) := by
 refine con func79 rfl ntmps79 rfl ?_
 intro M0 F0 w0
 refine k_ 14 ?_
 refine cl (ι := {k : Nat // k ≤ l.length ∧ (l.take k).any f = false}) (fun i => St M0 F0 w0 19 [(0, .slice A l.length c), (1, .func (.func g) #[] cap.toArray), (7, .int .i64 (l.length : Int)), (8, .int .i64 (i.1 : Int))] [x] (slA A l :: Γf)) (fun i => l.length - i.1) ⟨0, by simp⟩ (wk0 Φ Ω) ?_
 rintro ⟨k, hk, hkk⟩
 refine cmono (S' := St M0 F0 w0 19 [(0, .slice A l.length c), (1, .func (.func g) #[] cap.toArray), (7, .int .i64 (l.length : Int)), (8, .int .i64 (k : Int))] [x] (slA A l :: Γf)) Ħ ?_
 refine k_ 6 ?_
 refine cc rfl ?_ ?_
 ·
  intro h9
  try simp only [nrmZ] at h9
  have hk1 : k < l.length := by omega
  refine k_ 11 ?_
  refine elC Θ k (List.getElem?_eq_getElem (l := l) hk1) ?_; rintro zbp zop zyp hAp
  refine k_ 4 ?_
  refine ls (op (p_ia k hAp hk1 rfl underlying37 sizeOf9 rfl rfl) rfl) ?_
  refine ls (o_ldi isAgg9 rfl Θ 0 rfl Δ rfl) ?_
  refine ls (o_callv (is := [0]) rfl hcf (hg _ (List.getElem_mem hk1)) rfl rfl rfl Ω rfl) ?_
  refine le ?_; intro x16
  refine k_ 2 ?_
  refine cc rfl ?_ ?_
  ·
   intro h16
   try simp only [nrmZ] at h16
   refine k_ 8 ?_
   exact rR [0] ⟨(k : Int), by omega, by omega, by simp only [List.any_eq_true]; exact ⟨fun _ => ⟨_, List.getElem_mem hk1, h16⟩, fun _ => by omega⟩⟩
  ·
   intro h16
   try simp only [nrmZ] at h16
   refine k_ 7 ?_
   refine nnext ⟨k + 1, hk1, by rw [List.take_succ_eq_append_getElem hk1, List.any_append, hkk]; simp [h16]⟩ (by dsimp only; omega) (wk0 Φ Ω)
 ·
  intro h9
  try simp only [nrmZ] at h9
  refine k_ 12 ?_
  exact rR [0] ⟨-1, by omega, by omega, by rw [List.take_of_length_le (by omega)] at hkk; simp [hkk]⟩
set_option maxRecDepth 100000 in
theorem c_ContainsFunc1 (l : List ByteArray) (A : Option Addr) (c : Nat) (hl : l.length ≤ 2000000) (f : ByteArray → Bool) (g : FuncId) (cap : List Value) (Γf : List Asn) (x : Xsn) (hcf : ∀ args w, (callFunc g args).run Tryz.prog w = .ok (.enter g args) w) (hg : ∀ s ∈ l, Con Tryz.prog g (.string s :: cap) [x] Γf Unit (fun _ => .bool (f s)) (fun _ => [x]) (fun _ => [])) : Con Tryz.prog 64 [.slice A l.length c, .func (.func g) #[] cap.toArray] [x] (slA A l :: Γf) Unit (fun _ => .bool (l.any f)) (fun _ => [x]) (fun _ => []) := by
 refine con func64 rfl ntmps64 rfl ?_
 intro M0 F0 w0
 refine k_ 9 ?_
 refine lC [0] call79 (c_IndexFunc1 l A c hl f g cap Γf x hcf hg) ?_; rintro ⟨r, hr1, hr2, hr3⟩
 refine k_ 6 ?_
 refine rret (is := [0]) () (Or.inl rfl) (Res.t rfl Res.d) ?_ rfl Ω
 simp [packV]; rw [Bool.eq_iff_iff]; simp [← hr3]
set_option maxRecDepth 100000 in
theorem c_Index (l : List ByteArray) (A : Option Addr) (c : Nat) (hl : l.length ≤ 2000000) (v : ByteArray) : Con Tryz.prog 91 [.slice A l.length c, .string v] [] [slA A l] {r : Int // -1 ≤ r ∧ r ≤ 2000000 ∧ (0 ≤ r ↔ v ∈ l)} (fun r => .int .i64 r.1) (fun _ => []) (fun _ => []) := by
 refine con func91 rfl ntmps91 rfl ?_
 intro M0 F0 w0
 refine k_ 14 ?_
 refine cl (ι := {k : Nat // k ≤ l.length ∧ v ∉ l.take k}) (fun i => St M0 F0 w0 19 [(0, .slice A l.length c), (1, .string v), (7, .int .i64 (l.length : Int)), (8, .int .i64 (i.1 : Int))] [] [slA A l]) (fun i => l.length - i.1) ⟨0, by simp⟩ (wk0 Φ Ω) ?_
 rintro ⟨k, hk, hkk⟩
 refine cmono (S' := St M0 F0 w0 19 [(0, .slice A l.length c), (1, .string v), (7, .int .i64 (l.length : Int)), (8, .int .i64 (k : Int))] [] [slA A l]) Ħ ?_
 refine k_ 6 ?_
 refine cc rfl ?_ ?_
 ·
  intro h9
  try simp only [nrmZ] at h9
  have hk1 : k < l.length := by omega
  refine k_ 11 ?_
  refine elC Θ k (List.getElem?_eq_getElem (l := l) hk1) ?_; rintro zbp zop zyp hAp
  refine k_ 4 ?_
  refine ls (op (p_ia k hAp hk1 rfl underlying37 sizeOf9 rfl rfl) rfl) ?_
  refine ls (o_ldi isAgg9 rfl Θ 0 rfl Δ rfl) ?_
  refine k_ 3 ?_
  refine cc rfl ?_ ?_
  ·
   intro h16
   try simp only [nrmZ] at h16
   refine k_ 8 ?_
   exact rR [] ⟨(k : Int), by omega, by omega, ⟨fun _ => h16 ▸ List.getElem_mem hk1, fun _ => by omega⟩⟩
  ·
   intro h16
   try simp only [nrmZ] at h16
   refine k_ 7 ?_
   refine nnext ⟨k + 1, hk1, by rw [List.take_succ_eq_append_getElem hk1, List.mem_append]; simp [h16, hkk]⟩ (by dsimp only; omega) (wk0 Φ Ω)
 ·
  intro h9
  try simp only [nrmZ] at h9
  refine k_ 12 ?_
  exact rR [] ⟨-1, by omega, by omega, by rw [List.take_of_length_le (by omega)] at hkk; simp [hkk]⟩
set_option maxRecDepth 100000 in
theorem c_Contains (l : List ByteArray) (A : Option Addr) (c : Nat) (hl : l.length ≤ 2000000) (v : ByteArray) : Con Tryz.prog 83 [.slice A l.length c, .string v] [] [slA A l] Unit (fun _ => .bool (l.any fun s => decide (s = v))) (fun _ => []) (fun _ => []) := by
 refine con func83 rfl ntmps83 rfl ?_
 intro M0 F0 w0
 refine k_ 9 ?_
 refine lC [] call91 (c_Index l A c hl v) ?_; rintro ⟨r, hr1, hr2, hr3⟩
 refine k_ 6 ?_
 refine rret (is := []) () (Or.inl rfl) (Res.t rfl Res.d) ?_ rfl Ω
 simp [packV]; rw [Bool.eq_iff_iff]; simp [hr3]
end Go.Proofs.YtmikcpaaomamiaaGreatDoor.X
end
section
namespace Go.Proofs
open Go.Shelf
def Tryz.lays160_ren : Go.Shelf.Ren := ⟨fun | 160 => 63 | 232 => 73 | 231 => 72 | 227 => 74 | 234 => 76 | 233 => 75 | 236 => 78 | 235 => 77 | 228 => 86 | 271 => 89 | 151 => 88 | 197 => 87 | 120 => 94 | 152 => 93 | 260 => 92 | 137 => 97 | 119 => 98 | 224 => 70 | 225 => 69 | 217 => 68 | 266 => 84 | n => n, fun | 9 => 9 | 4 => 4 | 3 => 3 | 5 => 5 | 117 => 103 | 116 => 102 | 0 => 0 | 124 => 106 | 21 => 21 | 105 => 115 | 46 => 99 | 119 => 123 | 139 => 126 | 138 => 125 | n => n, fun | 3 => 1 | 4 => 2 | n => n⟩
theorem Tryz.lays160 : Go.Proofs.Lays.n160 Tryz.prog Tryz.lays160_ren := {
  mixed := by kernel_rfl
  f119 := Tryz.func98.trans (congrArg some Ψ)
  f120 := Tryz.func94.trans (congrArg some Ψ)
  f137 := Tryz.func97.trans (congrArg some Ψ)
  f151 := Tryz.func88.trans (congrArg some Ψ)
  f152 := Tryz.func93.trans (congrArg some Ψ)
  f160 := Tryz.func63.trans (congrArg some Ψ)
  f197 := Tryz.func87.trans (congrArg some Ψ)
  f217 := Tryz.func68.trans (congrArg some Ψ)
  f224 := Tryz.func70.trans (congrArg some Ψ)
  f225 := Tryz.func69.trans (congrArg some Ψ)
  f227 := Tryz.func74.trans (congrArg some Ψ)
  f228 := Tryz.func86.trans (congrArg some Ψ)
  f231 := Tryz.func72.trans (congrArg some Ψ)
  f232 := Tryz.func73.trans (congrArg some Ψ)
  f233 := Tryz.func75.trans (congrArg some Ψ)
  f234 := Tryz.func76.trans (congrArg some Ψ)
  f235 := Tryz.func77.trans (congrArg some Ψ)
  f236 := Tryz.func78.trans (congrArg some Ψ)
  f260 := Tryz.func92.trans (congrArg some Ψ)
  f266 := Tryz.func84.trans (congrArg some Ψ)
  f271 := Tryz.func89.trans (congrArg some Ψ)
  t0 := Tryz.underlying0
  a0 := Tryz.isAgg0
  z0 := Tryz.sizeOf0
  v0 := Tryz.zeroValue0
  t3 := Tryz.underlying3
  a3 := Tryz.isAgg3
  z3 := Tryz.sizeOf3
  v3 := Tryz.zeroValue3
  t4 := Tryz.underlying4
  a4 := Tryz.isAgg4
  z4 := Tryz.sizeOf4
  v4 := Tryz.zeroValue4
  t5 := Tryz.underlying5
  a5 := Tryz.isAgg5
  z5 := Tryz.sizeOf5
  v5 := Tryz.zeroValue5
  t9 := Tryz.underlying9
  a9 := Tryz.isAgg9
  z9 := Tryz.sizeOf9
  v9 := Tryz.zeroValue9
  t21 := Tryz.underlying21
  a21 := Tryz.isAgg21
  z21 := Tryz.sizeOf21
  v21 := Tryz.zeroValue21
  t46 := Tryz.underlying99
  a46 := Tryz.isAgg99
  z46 := Tryz.sizeOf99
  v46 := Tryz.zeroValue99
  t105 := Tryz.underlying115
  a105 := Tryz.isAgg115
  z105 := Tryz.sizeOf115
  v105 := Tryz.zeroValue115
  t116 := Tryz.underlying102
  a116 := Tryz.isAgg102
  z116 := Tryz.sizeOf102
  t117 := Tryz.underlying103
  a117 := Tryz.isAgg103
  z117 := Tryz.sizeOf103
  v117 := Tryz.zeroValue103
  t119 := Tryz.underlying123
  a119 := Tryz.isAgg123
  z119 := Tryz.sizeOf123
  t124 := Tryz.underlying106
  a124 := Tryz.isAgg106
  z124 := Tryz.sizeOf106
  v124 := Tryz.zeroValue106
  t138 := Tryz.underlying125
  a138 := Tryz.isAgg125
  z138 := Tryz.sizeOf125
  v138 := Tryz.zeroValue125
  t139 := Tryz.underlying126
  a139 := Tryz.isAgg126
  z139 := Tryz.sizeOf126
  v139 := Tryz.zeroValue126
  g3 := by kernel_rfl
  g4 := by kernel_rfl }
def Tryz.lays144_ren : Go.Shelf.Ren := ⟨fun | 144 => 47 | 143 => 56 | 219 => 62 | 217 => 68 | 225 => 69 | 224 => 70 | 267 => 71 | 266 => 84 | 314 => 85 | n => n, fun | 9 => 9 | 4 => 4 | 3 => 3 | 5 => 5 | 46 => 99 | 146 => 112 | 51 => 111 | n => n, fun | 1 => 0 | n => n⟩
theorem Tryz.lays144 : Go.Proofs.Lays.n144 Tryz.prog Tryz.lays144_ren := {
  mixed := by kernel_rfl
  f143 := Tryz.func56.trans (congrArg some Ψ)
  f144 := Tryz.func47.trans (congrArg some Ψ)
  f217 := Tryz.func68.trans (congrArg some Ψ)
  f219 := Tryz.func62.trans (congrArg some Ψ)
  f224 := Tryz.func70.trans (congrArg some Ψ)
  f225 := Tryz.func69.trans (congrArg some Ψ)
  f266 := Tryz.func84.trans (congrArg some Ψ)
  f267 := Tryz.func71.trans (congrArg some Ψ)
  f314 := Tryz.func85.trans (congrArg some Ψ)
  t3 := Tryz.underlying3
  a3 := Tryz.isAgg3
  z3 := Tryz.sizeOf3
  v3 := Tryz.zeroValue3
  t4 := Tryz.underlying4
  a4 := Tryz.isAgg4
  z4 := Tryz.sizeOf4
  v4 := Tryz.zeroValue4
  t5 := Tryz.underlying5
  a5 := Tryz.isAgg5
  z5 := Tryz.sizeOf5
  v5 := Tryz.zeroValue5
  t9 := Tryz.underlying9
  a9 := Tryz.isAgg9
  z9 := Tryz.sizeOf9
  v9 := Tryz.zeroValue9
  t46 := Tryz.underlying99
  a46 := Tryz.isAgg99
  z46 := Tryz.sizeOf99
  v46 := Tryz.zeroValue99
  t51 := Tryz.underlying111
  a51 := Tryz.isAgg111
  z51 := Tryz.sizeOf111
  v51 := Tryz.zeroValue111
  t146 := Tryz.underlying112
  a146 := Tryz.isAgg112
  z146 := Tryz.sizeOf112
  v146 := Tryz.zeroValue112
  g1 := by kernel_rfl }
open Go.RowKit Go.Lib in
theorem Tryz.strings_Contains_one (s : ByteArray) (c : UInt8) (w : World) :
    Calls Tryz.prog 47 #[.string s, .string ⟨#[c]⟩] w fun e w' => e = .returned (.bool (decide (0 ≤ Lib.indexByte s.data.toList c))) ∧ w' = w := Any.strings_Contains_one Tryz.lays144 s c w
def Tryz.lays190_ren : Go.Shelf.Ren := ⟨fun | 190 => 90 | 125 => 96 | 258 => 95 | 128 => 108 | 129 => 109 | 302 => 99 | 303 => 100 | 304 => 101 | 305 => 102 | 306 => 103 | 307 => 104 | 308 => 105 | 309 => 106 | 310 => 107 | 333 => 110 | 329 => 111 | 330 => 112 | 334 => 113 | 335 => 114 | 336 => 115 | 344 => 116 | n => n, fun | 31 => 37 | 9 => 9 | 3 => 3 | 46 => 99 | 0 => 0 | 51 => 111 | 53 => 138 | 4 => 4 | 183 => 130 | 182 => 129 | 131 => 134 | 5 => 5 | 218 => 139 | 222 => 143 | 228 => 145 | 229 => 146 | n => n, fun | n => n⟩
theorem Tryz.lays190 : Go.Proofs.Lays.n190 Tryz.prog Tryz.lays190_ren := {
  mixed := by kernel_rfl
  f125 := Tryz.func96.trans (congrArg some Ψ)
  f128 := Tryz.func108.trans (congrArg some Ψ)
  f129 := Tryz.func109.trans (congrArg some Ψ)
  f190 := Tryz.func90.trans (congrArg some Ψ)
  f258 := Tryz.func95.trans (congrArg some Ψ)
  f302 := Tryz.func99.trans (congrArg some Ψ)
  f303 := Tryz.func100.trans (congrArg some Ψ)
  f304 := Tryz.func101.trans (congrArg some Ψ)
  f305 := Tryz.func102.trans (congrArg some Ψ)
  f306 := Tryz.func103.trans (congrArg some Ψ)
  f307 := Tryz.func104.trans (congrArg some Ψ)
  f308 := Tryz.func105.trans (congrArg some Ψ)
  f309 := Tryz.func106.trans (congrArg some Ψ)
  f310 := Tryz.func107.trans (congrArg some Ψ)
  f329 := Tryz.func111.trans (congrArg some Ψ)
  f330 := Tryz.func112.trans (congrArg some Ψ)
  f333 := Tryz.func110.trans (congrArg some Ψ)
  f334 := Tryz.func113.trans (congrArg some Ψ)
  f335 := Tryz.func114.trans (congrArg some Ψ)
  f336 := Tryz.func115.trans (congrArg some Ψ)
  f344 := Tryz.func116.trans (congrArg some Ψ)
  t0 := Tryz.underlying0
  a0 := Tryz.isAgg0
  z0 := Tryz.sizeOf0
  v0 := Tryz.zeroValue0
  t3 := Tryz.underlying3
  a3 := Tryz.isAgg3
  z3 := Tryz.sizeOf3
  v3 := Tryz.zeroValue3
  t4 := Tryz.underlying4
  a4 := Tryz.isAgg4
  z4 := Tryz.sizeOf4
  v4 := Tryz.zeroValue4
  t5 := Tryz.underlying5
  a5 := Tryz.isAgg5
  z5 := Tryz.sizeOf5
  v5 := Tryz.zeroValue5
  t9 := Tryz.underlying9
  a9 := Tryz.isAgg9
  z9 := Tryz.sizeOf9
  v9 := Tryz.zeroValue9
  t31 := Tryz.underlying37
  a31 := Tryz.isAgg37
  z31 := Tryz.sizeOf37
  v31 := Tryz.zeroValue37
  t46 := Tryz.underlying99
  a46 := Tryz.isAgg99
  z46 := Tryz.sizeOf99
  v46 := Tryz.zeroValue99
  t51 := Tryz.underlying111
  a51 := Tryz.isAgg111
  z51 := Tryz.sizeOf111
  v51 := Tryz.zeroValue111
  t53 := Tryz.underlying138
  a53 := Tryz.isAgg138
  z53 := Tryz.sizeOf138
  v53 := Tryz.zeroValue138
  t131 := Tryz.underlying134
  a131 := Tryz.isAgg134
  z131 := Tryz.sizeOf134
  v131 := Tryz.zeroValue134
  t182 := Tryz.underlying129
  a182 := Tryz.isAgg129
  z182 := Tryz.sizeOf129
  v182 := Tryz.zeroValue129
  t183 := Tryz.underlying130
  a183 := Tryz.isAgg130
  z183 := Tryz.sizeOf130
  v183 := Tryz.zeroValue130
  t218 := Tryz.underlying139
  a218 := Tryz.isAgg139
  z218 := Tryz.sizeOf139
  v218 := Tryz.zeroValue139
  t222 := Tryz.underlying143
  a222 := Tryz.isAgg143
  z222 := Tryz.sizeOf143
  v222 := Tryz.zeroValue143
  t228 := Tryz.underlying145
  a228 := Tryz.isAgg145
  z228 := Tryz.sizeOf145
  v228 := Tryz.zeroValue145
  t229 := Tryz.underlying146
  a229 := Tryz.isAgg146
  z229 := Tryz.sizeOf146
  v229 := Tryz.zeroValue146 }
open Go.Sort Go.RowKit in
theorem Tryz.slices_Sort_string (blk off cap : Nat) (ss : List (List UInt8)) (w : World) (hH : Holds encStr w blk off ss.toArray) (hblk : blk < w.heap.size) (hsz : ss.length < 4611686018427387904) :
    Calls Tryz.prog 90 #[.slice (some ⟨blk, off, none⟩) ss.length cap] w fun e w' =>
      e = .returned (.tuple #[]) ∧ ∃ n os, w' = grow (putRow encStr (Sort.ahead w n) blk off (ss.mergeSort fun x y => decide (x ≤ y)).toArray) os := Any.slices_Sort_string Tryz.lays190 blk off cap ss w hH hblk hsz
open Go.RowKit Go.Sort in
theorem Tryz.slices_Sort_string_none (p : Option Addr) (cap : Nat) (w : World) :
    Calls Tryz.prog 90 #[.slice p 0 cap] w fun e w' => e = .returned (.tuple #[]) ∧ w' = w := Any.slices_Sort_string_none Tryz.lays190 p cap w
end Go.Proofs
end
section
set_option linter.unusedVariables false
set_option linter.unusedSimpArgs false
namespace Go.Proofs.YtmikcpaaomamiaaGreatDoor.X
open Go Go.RowKit Go.Proofs Go.Sx
open Tryz
attribute [local irreducible] slA isA box row TrL TrC TrN TrA Pu OpR
set_option maxHeartbeats 8000000
open Go.Shelf
def alpha : ByteArray := ⟨#[97, 98, 99, 100, 101, 102, 103, 104, 105, 106, 107, 108, 109, 110, 111, 112, 113, 114, 115, 116, 117, 118, 119, 120, 121, 122, 48, 49, 50, 51, 52, 53, 54, 55, 56, 57, 46, 45, 95, 47]⟩
theorem alpha_nameB : ∀ b : UInt8, (ofB alpha).contains b = nameB b := fun b => by
 have h : ∀ n : Fin 256, (ofB alpha).contains (UInt8.ofFin n) = nameB (UInt8.ofFin n) := by decide +kernel
 exact h b.toFin
theorem l_Contains (s : ByteArray) : Con Tryz.prog 47 [.string s, .string ⟨#[10]⟩] [] [] Unit (fun _ => .bool ((ofB s).contains 10)) (fun _ => []) (fun _ => []) := by
 refine con_same fun w => ?_
 have h := Tryz.strings_Contains_one s 10 w
 have e : decide (0 ≤ Lib.indexByte s.data.toList 10) = (ofB s).contains 10 := (Lib.contains_iff_indexByte _ _).symm
 rw [e] at h
 exact h
theorem l_Trim (s : ByteArray) (hs : s.size ≤ 2000000) : Con Tryz.prog 63 [.string s, .string alpha] [] [] Unit (fun _ => .string ⟨(Lib.trimS (ofB s) (ofB alpha)).toArray⟩) (fun _ => []) (fun _ => []) := by
 refine con_below fun M0 w _ => ?_
 exact Any.strings_Trim_laid lays160 Ψ s alpha w (by omega) (by decide) (ascii_of_all (by decide))
theorem trim_name (s : ByteArray) : decide ((⟨(Lib.trimS (ofB s) (ofB alpha)).toArray⟩ : ByteArray) = ⟨#[]⟩) = (ofB s).all nameB := by
 rw [Bool.eq_iff_iff, decide_eq_true_iff, List.all_eq_true]
 have : ((⟨(Lib.trimS (ofB s) (ofB alpha)).toArray⟩ : ByteArray) = ⟨#[]⟩) ↔ Lib.trimS (ofB s) (ofB alpha) = [] := by
  constructor
  ·
   intro h
   have := congrArg (fun b : ByteArray => b.data.toList) h
   simpa using this
  ·
   intro h; rw [h]
 rw [this, trimS_nil]
 simp only [alpha_nameB]
theorem l_Sort (e : TypeId) (A : Option Addr) (c : Nat) (l : List ByteArray) (hl : l.length ≤ 2000000) : Con Tryz.prog 90 [.slice A l.length c] [row e A c l] [] Unit (fun _ => .tuple #[]) (fun _ => [row e A c (sortB l)]) (fun _ => []) :=
 con_sort e A c l hl (fun w => Tryz.slices_Sort_string_none none 0 w) (fun blk cap ss w h1 h2 h3 => Tryz.slices_Sort_string blk 0 cap ss w h1 h2 h3)
set_option maxRecDepth 100000 in
theorem c_lineRight (s : ByteArray) : Con Tryz.prog 32 [.string s] [] [] Unit (fun _ => .bool (lineOk s)) (fun _ => []) (fun _ => []) := by
 refine con func32 rfl ntmps32 rfl ?_
 intro M0 F0 w0
 refine k_ 11 ?_
 refine andX 4 6 10 rfl (sL [2]) ?_ ?_
 ·
  intro h6
  refine k_ 4 ?_
  refine ln (nmid (wk0 Φ Ω))
 apply exI
 ·
  intro h6
  refine k_ 1 ?_
  refine lwant rfl rfl rfl rfl (o_call (is := []) call47 (l_Contains s) rfl rfl Ω rfl) ?_
  refine le ?_; intro x8
  refine k_ 2 ?_
  refine ln (nmid (wk0 Φ Ω))
 ·
  refine k_ 5 ?_
  exact rR [] ()
set_option maxRecDepth 100000 in
theorem c_lineAll1 (s : ByteArray) : Con Tryz.prog 65 [.string s] [] [] Unit (fun _ => .bool (!lineOk s)) (fun _ => []) (fun _ => []) := by
 refine con func65 rfl ntmps65 rfl ?_
 intro M0 F0 w0
 refine k_ 8 ?_
 refine lC [] call32 (c_lineRight s) ?_; intro x4
 refine k_ 6 ?_
 exact rR [] ()
set_option maxRecDepth 100000 in
theorem c_lineAll (l : List ByteArray) (A : Option Addr) (c : Nat) (hl : l.length ≤ 2000000) : Con Tryz.prog 59 [.slice A l.length c] [] [slA A l] Unit (fun _ => .bool (l.all lineOk)) (fun _ => []) (fun _ => []) := by
 refine con func59 rfl ntmps59 rfl ?_
 intro M0 F0 w0
 refine k_ 8 ?_
 refine lC [] call64 (c_ContainsFunc0 l A c hl (fun s => !lineOk s) 65 [] [] call65 (fun s _ => c_lineAll1 s)) ?_; intro x4
 refine k_ 6 ?_
 refine rret (is := []) () (Or.inl rfl) (Res.t rfl Res.d) ?_ rfl Ω
 simp [packV, List.any_eq_not_all_not]
set_option maxRecDepth 100000 in
theorem c_treeNamed (s : ByteArray) : Con Tryz.prog 58 [.string s] [] [] Unit (fun _ => .bool (nameOk s)) (fun _ => []) (fun _ => []) := by
 refine con func58 rfl ntmps58 rfl ?_
 intro M0 F0 w0
 refine k_ 11 ?_
 refine andX 4 6 10 rfl (sL [0, 2]) ?_ ?_
 ·
  intro h6
  refine k_ 4 ?_
  refine ln (nmid (wk0 Φ Ω))
 apply exI
 ·
  intro h6
  refine k_ 4 ?_
  refine ln (nmid (wk0 Φ Ω))
 ·
  refine k_ 1 ?_
  refine andX 4 11 15 rfl (sL [2]) ?_ ?_
  ·
   intro h11
   refine k_ 4 ?_
   refine ln (nmid (wk0 Φ Ω))
  apply exI
  ·
   intro h11
   refine k_ 1 ?_
   refine lwant rfl rfl rfl rfl (o_call (is := []) call63 (l_Trim s (by simp only [Bool.and_eq_true, decide_eq_true_eq] at h11; omega)) rfl rfl Ω rfl) ?_
   refine le ?_; intro x13
   refine k_ 2 ?_
   refine ln (nmid (wk0 Φ Ω))
  ·
   refine k_ 5 ?_
   refine rret (is := []) () (Or.inl rfl) (Res.t rfl Res.d) ?_ rfl Ω
   simp only [packV, nameOk, ← trim_name]
set_option maxRecDepth 100000 in
theorem c_primRight (p : Prim) (y : Rp.Lay Prim) (hp : p.fit) : Con Tryz.prog 51 [sv p y] [] (Rp.asn p y) Unit (fun _ => .bool (p.right)) (fun _ => []) (fun _ => []) := by
 refine con func51 rfl ntmps51 rfl ?_
 intro M0 F0 w0
 refine k_ 2 ?_
 refine ls (o_box rfl rfl rfl) ?_
 refine le ?_; intro b1
 refine k_ 9 ?_
 refine andX 5 7 12 rfl (sL [0, 1, 2]) ?_ ?_
 ·
  intro h7
  refine k_ 5 ?_
  refine ln (nmid (wk0 Φ Ω))
 apply exI
 ·
  intro h7
  refine k_ 5 ?_
  refine ln (nmid (wk0 Φ Ω))
 ·
  refine k_ 1 ?_
  refine andX 5 13 18 rfl (sL [0, 1, 2]) ?_ ?_
  ·
   intro h13
   refine k_ 5 ?_
   refine ln (nmid (wk0 Φ Ω))
  apply exI
  ·
   intro h13
   refine k_ 5 ?_
   refine ln (nmid (wk0 Φ Ω))
  ·
   refine k_ 9 ?_
   refine lC [] call58 (c_treeNamed _) ?_; intro x22
   refine k_ 4 ?_
   refine cc rfl ?_ ?_
   ·
    intro h19
    try simp only [nrmZ] at h19
    refine k_ 7 ?_
    refine rret (is := []) () (Or.inl rfl) (Res.t rfl Res.d) ?_ rfl Ω
    simp [packV, Prim.right, Prim.bare, *]
   ·
    intro h19
    try simp only [nrmZ] at h19
    refine k_ 8 ?_
    refine cc rfl ?_ ?_
    ·
     intro h24
     try simp only [nrmZ] at h24
     refine k_ 6 ?_
     refine andX 4 31 35 rfl (sL [0, 1, 2, 18, 3, 20, 21, 22, 23, 19, 25, 26, 27, 24]) ?_ ?_
     ·
      intro h31
      refine k_ 4 ?_
      refine ln (nmid (wk0 Φ Ω))
     apply exI
     ·
      intro h31
      refine k_ 4 ?_
      refine ln (nmid (wk0 Φ Ω))
     ·
      refine k_ 1 ?_
      refine andX 4 36 40 rfl (sL [0, 1, 2, 18, 3, 20, 21, 22, 23, 19, 25, 26, 27, 24]) ?_ ?_
      ·
       intro h36
       refine k_ 4 ?_
       refine ln (nmid (wk0 Φ Ω))
      apply exI
      ·
       intro h36
       refine k_ 4 ?_
       refine ln (nmid (wk0 Φ Ω))
      ·
       refine k_ 1 ?_
       refine andX 4 41 45 rfl (sL [0, 1, 2, 18, 3, 20, 21, 22, 23, 19, 25, 26, 27, 24]) ?_ ?_
       ·
        intro h41
        refine k_ 4 ?_
        refine ln (nmid (wk0 Φ Ω))
       apply exI
       ·
        intro h41
        refine k_ 2 ?_
        refine lwant rfl rfl rfl rfl (o_call (is := []) call59 (c_lineAll p.old _ _ hp.o) rfl rfl Ω rfl) ?_
        refine le ?_; intro x44
        refine k_ 1 ?_
        refine ln (nmid (wk0 Φ Ω))
       ·
        refine k_ 1 ?_
        refine andX 4 46 50 rfl (sL [0, 1, 2, 18, 3, 20, 21, 22, 23, 19, 25, 26, 27, 24]) ?_ ?_
        ·
         intro h46
         refine k_ 4 ?_
         refine ln (nmid (wk0 Φ Ω))
        apply exI
        ·
         intro h46
         refine k_ 2 ?_
         refine lwant rfl rfl rfl rfl (o_call (is := []) call59 (c_lineAll p.new _ _ hp.n) rfl rfl Ω rfl) ?_
         refine le ?_; intro x49
         refine k_ 1 ?_
         refine ln (nmid (wk0 Φ Ω))
        ·
         refine k_ 1 ?_
         refine andX 7 51 58 rfl (sL [0, 1, 2, 18, 3, 20, 21, 22, 23, 19, 25, 26, 27, 24]) ?_ ?_
         ·
          intro h51
          refine k_ 7 ?_
          refine ln (nmid (wk0 Φ Ω))
         apply exI
         ·
          intro h51
          refine k_ 4 ?_
          refine lwant rfl rfl rfl rfl (o_call (is := []) call55 (c_lineSame p.old p.new _ _ _ _ hp.o) rfl rfl Ω rfl) ?_
          refine le ?_; intro x56
          refine k_ 2 ?_
          refine ln (nmid (wk0 Φ Ω))
         ·
          refine k_ 5 ?_
          refine rret (is := []) () (Or.inl rfl) (Res.t rfl Res.d) ?_ rfl Ω
          simp [packV, Prim.right, Prim.bare, *]
    ·
     intro h24
     try simp only [nrmZ] at h24
     refine k_ 8 ?_
     refine cc rfl ?_ ?_
     ·
      intro h59
      try simp only [nrmZ] at h59
      refine k_ 4 ?_
      refine andX 4 64 68 rfl (sL [0, 1, 2, 18, 3, 20, 21, 22, 23, 19, 25, 26, 27, 24, 60, 61, 62, 59]) ?_ ?_
      ·
       intro h64
       refine k_ 4 ?_
       refine ln (nmid (wk0 Φ Ω))
      apply exI
      ·
       intro h64
       refine k_ 2 ?_
       refine lwant rfl rfl rfl rfl (o_call (is := []) call58 (c_treeNamed _) rfl rfl Ω rfl) ?_
       refine le ?_; intro x67
       refine k_ 1 ?_
       refine ln (nmid (wk0 Φ Ω))
      ·
       refine k_ 1 ?_
       refine andX 6 69 75 rfl (sL [0, 1, 2, 18, 3, 20, 21, 22, 23, 19, 25, 26, 27, 24, 60, 61, 62, 59]) ?_ ?_
       ·
        intro h69
        refine k_ 6 ?_
        refine ln (nmid (wk0 Φ Ω))
       apply exI
       ·
        intro h69
        refine k_ 6 ?_
        refine ln (nmid (wk0 Φ Ω))
       ·
        refine k_ 5 ?_
        refine rret (is := []) () (Or.inl rfl) (Res.t rfl Res.d) ?_ rfl Ω
        simp [packV, Prim.right, Prim.bare, *]
     ·
      intro h59
      try simp only [nrmZ] at h59
      refine k_ 7 ?_
      refine andX 4 77 81 rfl (sL [0, 1, 2, 18, 3, 20, 21, 22, 23, 19, 25, 26, 27, 24, 60, 61, 62, 59]) ?_ ?_
      ·
       intro h77
       refine k_ 4 ?_
       refine ln (nmid (wk0 Φ Ω))
      apply exI
      ·
       intro h77
       refine k_ 4 ?_
       refine ln (nmid (wk0 Φ Ω))
      ·
       refine k_ 1 ?_
       refine andX 9 82 91 rfl (sL [0, 1, 2, 18, 3, 20, 21, 22, 23, 19, 25, 26, 27, 24, 60, 61, 62, 59]) ?_ ?_
       ·
        intro h82
        refine k_ 9 ?_
        refine ln (nmid (wk0 Φ Ω))
       apply exI
       ·
        intro h82
        refine k_ 4 ?_
        refine orX 4 86 90 rfl (sL [0, 1, 2, 18, 3, 20, 21, 22, 23, 19, 25, 26, 27, 24, 60, 61, 62, 59, 82]) ?_ ?_
        ·
         intro h86
         refine k_ 4 ?_
         refine ln (nmid (wk0 Φ Ω))
        apply exI
        ·
         intro h86
         refine k_ 4 ?_
         refine ln (nmid (wk0 Φ Ω))
        ·
         refine k_ 1 ?_
         refine ln (nmid (wk0 Φ Ω))
       ·
        refine k_ 5 ?_
        refine rret (is := []) () (Or.inl rfl) (Res.t rfl Res.d) ?_ rfl Ω
        simp [packV, Prim.right, Prim.bare, *]
end Go.Proofs.YtmikcpaaomamiaaGreatDoor.X
end
section
set_option linter.unusedVariables false
set_option linter.unusedSimpArgs false
namespace Go.Proofs.YtmikcpaaomamiaaGreatDoor.X
open Go Go.RowKit Go.Proofs Go.Sx
open Tryz
attribute [local irreducible] slA isA box row TrL TrC TrN TrA Pu OpR
set_option maxHeartbeats 8000000
theorem dec_prim (p q : Prim) : (decide (p.kind = q.kind) && decide (p.name = q.name) && decide (p.to = q.to) && decide (p.pos = q.pos) && decide (p.old = q.old) && decide (p.new = q.new)) = decide (p = q) := by
 rw [Bool.eq_iff_iff]
 cases p; cases q
 simp [and_assoc]
theorem inf9 : (Tryz.prog.info? 9).map (fun i => (i.zero, i.size, i.bytes)) = some (some (.string ⟨#[]⟩), 1, 16) := by kernel_rfl
set_option maxRecDepth 100000 in
theorem c_primSame (p q : Prim) (yp yq : Rp.Lay Prim) (hp : p.fit) : Con Tryz.prog 46 [sv p yp, sv q yq] [] (Rp.asn p yp ++ Rp.asn q yq) Unit (fun _ => .bool (decide (p = q))) (fun _ => []) (fun _ => []) := by
 refine con func46 rfl ntmps46 rfl ?_
 intro M0 F0 w0
 refine k_ 2 ?_
 refine ls (o_box rfl rfl rfl) ?_
 refine le ?_; intro b2
 refine ls (o_box rfl rfl rfl) ?_
 refine le ?_; intro b3
 refine k_ 11 ?_
 refine andX 6 10 16 rfl (sL [0, 1, 2, 3, 4]) ?_ ?_
 ·
  intro h10
  refine k_ 6 ?_
  refine ln (nmid (wk0 Φ Ω))
 apply exI
 ·
  intro h10
  refine k_ 6 ?_
  refine ln (nmid (wk0 Φ Ω))
 ·
  refine k_ 1 ?_
  refine andX 6 17 23 rfl (sL [0, 1, 2, 3, 4]) ?_ ?_
  ·
   intro h17
   refine k_ 6 ?_
   refine ln (nmid (wk0 Φ Ω))
  apply exI
  ·
   intro h17
   refine k_ 6 ?_
   refine ln (nmid (wk0 Φ Ω))
  ·
   refine k_ 1 ?_
   refine andX 6 24 30 rfl (sL [0, 1, 2, 3, 4]) ?_ ?_
   ·
    intro h24
    refine k_ 6 ?_
    refine ln (nmid (wk0 Φ Ω))
   apply exI
   ·
    intro h24
    refine k_ 6 ?_
    refine ln (nmid (wk0 Φ Ω))
   ·
    refine k_ 1 ?_
    refine andX 6 31 37 rfl (sL [0, 1, 2, 3, 4]) ?_ ?_
    ·
     intro h31
     refine k_ 6 ?_
     refine ln (nmid (wk0 Φ Ω))
    apply exI
    ·
     intro h31
     refine k_ 4 ?_
     refine lwant rfl rfl rfl rfl (o_call (is := []) call55 (c_lineSame p.old q.old _ _ _ _ hp.o) rfl rfl Ω rfl) ?_
     refine le ?_; intro x36
     refine k_ 1 ?_
     refine ln (nmid (wk0 Φ Ω))
    ·
     refine k_ 1 ?_
     refine andX 6 38 44 rfl (sL [0, 1, 4]) ?_ ?_
     ·
      intro h38
      refine k_ 6 ?_
      refine ln (nmid (wk0 Φ Ω))
     apply exI
     ·
      intro h38
      refine k_ 4 ?_
      refine lwant rfl rfl rfl rfl (o_call (is := []) call55 (c_lineSame p.new q.new _ _ _ _ hp.n) rfl rfl Ω rfl) ?_
      refine le ?_; intro x43
      refine k_ 1 ?_
      refine ln (nmid (wk0 Φ Ω))
     ·
      refine k_ 5 ?_
      refine rret (is := []) () (Or.inl rfl) (Res.t rfl Res.d) ?_ rfl Ω
      simp only [packV, dec_prim]
set_option maxRecDepth 100000 in
theorem c_sClone (l : List ByteArray) (A : Option Addr) (c : Nat) (hl : l.length ≤ 2000000) : Con Tryz.prog 52 [.slice A l.length c] [] [slA A l] (Option Addr × Nat) (fun y => .slice y.1 l.length y.2) (fun _ => []) (fun y => [slA y.1 l]) := by
 refine con func52 rfl ntmps52 rfl ?_
 intro M0 F0 w0
 refine k_ 9 ?_
 refine ls (op (p_slnil underlying37 rfl rfl) rfl) ?_
 refine k_ 2 ?_
 refine cc rfl ?_ ?_
 ·
  intro h4
  have h5 : A = none := by simpa using h4
  refine cs ?_
  subst h5
  refine cmono (fun a w h => nil_len (l := l) (i := 0) At.z h) ?_
  refine cf ?_; rintro rfl
  refine k_ 6 ?_
  exact rR [] (none, 0)
 ·
  intro h4
  have h5 : ¬ A = none := by intro e; rw [e] at h4; cases h4
  refine k_ 4 ?_
  refine ls (o_bsl ([] : List ByteArray) underlying37 sizeOf9 zeroValue9 rfl Enum.d RV.d rfl (by decide) (by decide) rfl) ?_
  refine le ?_; intro b5
  refine k_ 1 ?_
  refine ls (o_app (is := [0]) underlying37 inf9 rfl (by decide) (by decide) rfl rfl (by simp; omega) (fun _ h => absurd h h5) rfl Ω rfl) ?_
  refine le ?_; rintro ⟨A', c2⟩
  refine lmono (fun a w h => Go.Sx.freeze (i := 0) rfl h) ?_
  rw [List.nil_append]
  refine k_ 5 ?_
  exact rR [] (A', c2)
set_option maxRecDepth 100000 in
theorem c_primClone (p : Prim) (y : Rp.Lay Prim) (hp : p.fit) : Con Tryz.prog 35 [sv p y] [] (Rp.asn p y) (Rp.Lay Prim) (fun y' => sv p y') (fun _ => []) (fun y' => Rp.asn p y') := by
 refine con func35 rfl ntmps35 rfl ?_
 intro M0 F0 w0
 refine k_ 2 ?_
 refine ls (o_box rfl rfl rfl) ?_
 refine le ?_; intro b1
 refine ls (o_alloc zeroValue39 rfl rfl) ?_
 refine le ?_; intro b2
 refine k_ 3 ?_
 refine cd [2, 5, 7, 9] [(1, b1, 4, _), (4, b1, 5, _)] TryzX.mixed (TOk.t (isBoxS Θ (k := 1) Δ) (TOk.t (isBoxS Θ (k := 1) Δ) TOk.d)) ?_
 refine u_ 0 2 ?_
 refine u_ 3 2 ?_
 refine df 2 Ψ ?_
 refine doR rfl (o_call (is := []) call52 (c_sClone p.old _ _ hp.o) rfl rfl Ω rfl) (TOk.x Ψ (TOk.t (isBoxE fun _ => isBoxS Θ (k := 1) Δ) TOk.d)) ?_
 refine ea ?_; intro y1
 refine u_ 6 1 ?_
 refine df 5 Ψ ?_
 refine doR rfl (o_call (is := []) call52 (c_sClone p.new _ _ hp.n) rfl rfl Ω rfl) tX ?_
 refine ea ?_; intro y2
 refine df 7 Ψ ?_
 refine doR rfl (o_st rfl sizeOf37 rfl rfl rfl rfl rfl Θ Θ Θ) tX ?_
 refine u_ 8 1 ?_
 refine df 9 Ψ ?_
 refine doR rfl (o_st rfl sizeOf37 rfl rfl rfl rfl rfl Θ Θ Θ) tX ?_
 refine dn Ψ ?_
 refine k_ 3 ?_
 refine ls (o_ldw isAgg39 sizeOf39 rfl Θ (by rfl) rfl) ?_
 refine k_ 5 ?_
 refine rret (is := []) (y1, y2) (Or.inl rfl) (Res.c rfl isAgg39 sizeOf39 Θ (by rfl) Res.d) (rfl) rfl Ω
end Go.Proofs.YtmikcpaaomamiaaGreatDoor.X
end
section
set_option linter.unusedVariables false
set_option linter.unusedSimpArgs false
namespace Go.Proofs.YtmikcpaaomamiaaGreatDoor.X
open Go Go.RowKit Go.Proofs Go.Sx
open Tryz
attribute [local irreducible] slA isA box row TrL TrC TrN TrA Pu OpR
set_option maxHeartbeats 8000000
theorem meets_sort (p q : Prim) : ((sortB p.names).any fun s => (sortB q.names).any fun t => decide (t = s)) = p.meets q := by
 unfold Prim.meets
 rw [any_perm (sortB_perm p.names)]
 congr 1
 funext s
 exact any_perm (sortB_perm q.names)
set_option maxRecDepth 100000 in
theorem c_primNames (p : Prim) (y : Rp.Lay Prim) : Con Tryz.prog 81 [sv p y] [] (Rp.asn p y) {x : List ByteArray × (Option Addr × Nat) // x.1 = sortB p.names} (fun x => .slice x.1.2.1 x.1.1.length x.1.2.2) (fun _ => []) (fun x => [slA x.1.2.1 x.1.1]) := by
 refine con func81 rfl ntmps81 rfl ?_
 intro M0 F0 w0
 refine k_ 2 ?_
 refine ls (o_box rfl rfl rfl) ?_
 refine le ?_; intro b1
 refine k_ 7 ?_
 refine ls (o_bsl [p.name] underlying37 sizeOf9 zeroValue9 rfl (Enum.t Enum.d) (RV.t () rfl Sub.d RV.d) rfl (by decide) (by decide) rfl) ?_
 refine le ?_; intro b6
 refine k_ 11 ?_
 refine cc rfl ?_ ?_
 ·
  intro h9
  try simp only [nrmZ] at h9
  refine k_ 4 ?_
  refine ls (o_bsl [p.to] underlying37 sizeOf9 zeroValue9 rfl (Enum.t Enum.d) (RV.t () rfl Sub.d RV.d) rfl (by decide) (by decide) rfl) ?_
  refine le ?_; intro b13
  refine lmono (fun a w h => Go.Sx.freeze (i := 0) rfl h) ?_
  refine ls (o_app (is := [0]) underlying37 inf9 rfl (by decide) (by decide) rfl rfl (by simp) (fun h => by cases h) rfl Ω rfl) ?_
  refine le ?_; rintro ⟨A', c2⟩
  refine k_ 6 ?_
  refine lC [0] call90 (l_Sort 9 _ _ ([p.name] ++ [p.to]) (by simp)) ?_; intro x16
  refine k_ 3 ?_
  refine cmono (fun a w h => Go.Sx.freeze (i := 0) rfl h) ?_
  refine k_ 7 ?_
  refine rret (is := []) ⟨(sortB ([p.name] ++ [p.to]), A', c2), by rw [Prim.names, if_pos h9]; rfl⟩ (Or.inl rfl) (Res.t rfl Res.d) ?_ rfl Ω
  simp only [packV, sortB_length]
 ·
  intro h9
  try simp only [nrmZ] at h9
  refine k_ 5 ?_
  refine lC [0] call90 (l_Sort 9 _ _ [p.name] (by simp)) ?_; intro x16
  refine k_ 3 ?_
  refine cmono (fun a w h => Go.Sx.freeze (i := 0) rfl h) ?_
  refine k_ 7 ?_
  refine rret (is := []) ⟨(sortB [p.name], some ⟨b6, 0, none⟩, 1), by rw [Prim.names, if_neg h9]⟩ (Or.inl rfl) (Res.t rfl Res.d) ?_ rfl Ω
  simp only [packV, sortB_length]; rfl
set_option maxRecDepth 100000 in
theorem c_shares1 (q : Prim) (yq : Rp.Lay Prim) (b : Nat) (s : ByteArray) : Con Tryz.prog 82 [.string s, .pointer (some ⟨b, 0, none⟩)] [box b 39 (Rp.enc q yq)] (Rp.asn q yq) Unit (fun _ => .bool ((sortB q.names).any fun t => decide (t = s))) (fun _ => [box b 39 (Rp.enc q yq)]) (fun _ => []) := by
 refine con func82 rfl ntmps82 rfl ?_
 intro M0 F0 w0
 refine k_ 7 ?_
 refine ls (o_ldw isAgg39 sizeOf39 rfl Θ (by rfl) rfl) ?_
 refine lC [] call81 (c_primNames q yq) ?_; rintro ⟨⟨l1, y1⟩, hl1⟩
 obtain rfl : l1 = sortB q.names := hl1
 refine k_ 1 ?_
 refine lC [] call83 (c_Contains (sortB q.names) y1.1 y1.2 (by rw [sortB_length]; unfold Prim.names; split <;> simp) s) ?_; intro x7
 refine k_ 5 ?_
 exact rR [0] ()
set_option maxRecDepth 100000 in
theorem c_shares (p q : Prim) (yp yq : Rp.Lay Prim) : Con Tryz.prog 67 [sv p yp, sv q yq] [] (Rp.asn p yp ++ Rp.asn q yq) Unit (fun _ => .bool (p.meets q)) (fun _ => []) (fun _ => []) := by
 refine con func67 rfl ntmps67 rfl ?_
 intro M0 F0 w0
 refine k_ 2 ?_
 refine ls (o_box rfl rfl rfl) ?_
 refine le ?_; intro b2
 refine ls (o_box rfl rfl rfl) ?_
 refine le ?_; intro b3
 refine k_ 5 ?_
 refine ls (o_ldw isAgg39 sizeOf39 rfl Θ (by rfl) rfl) ?_
 refine lC [] call81 (c_primNames p yp) ?_; rintro ⟨⟨l1, y1⟩, hl1⟩
 obtain rfl : l1 = sortB p.names := hl1
 refine ls (op (p_mkf rfl) rfl) ?_
 refine lC [0] call64 (c_ContainsFunc1 (sortB p.names) y1.1 y1.2 (by rw [sortB_length]; unfold Prim.names; split <;> simp) (fun s => (sortB q.names).any fun t => decide (t = s)) 82 [.pointer (some ⟨b3, 0, none⟩)] (Rp.asn q yq) (box b3 39 (Rp.enc q yq)) call82 (fun s _ => c_shares1 q yq b3 s)) ?_; intro x8
 refine k_ 5 ?_
 refine rret (is := []) () (Or.inl rfl) (Res.t rfl Res.d) ?_ rfl Ω
 simp only [packV, meets_sort]
set_option maxRecDepth 100000 in
theorem c_grows (p : Prim) (y : Rp.Lay Prim) (hp : p.fit) : Con Tryz.prog 80 [sv p y] [] (Rp.asn p y) Unit (fun _ => .int .i64 ((p.new.length : Int) - p.old.length)) (fun _ => []) (fun _ => []) := by
 refine con func80 rfl ntmps80 rfl ?_
 intro M0 F0 w0
 refine k_ 2 ?_
 refine ls (o_box rfl rfl rfl) ?_
 refine le ?_; intro b1
 refine k_ 11 ?_
 have h1 := hp.o; have h2 := hp.n
 refine k_ 6 ?_
 exact rR [] ()
set_option maxRecDepth 100000 in
theorem c_hunks (p q : Prim) (yp yq : Rp.Lay Prim) (hp : p.fit) (hq : q.fit) (hpa : 0 ≤ p.pos ∧ p.pos ≤ 1048576) (hqa : 0 ≤ q.pos ∧ q.pos ≤ 1048576) : Con Tryz.prog 66 [sv p yp, sv q yq] [] (Rp.asn p yp ++ Rp.asn q yq) (Two (hunks p q)) (fun x => x.v) (fun _ => []) (fun x => x.g) := by
 refine con func66 rfl ntmps66 rfl ?_
 intro M0 F0 w0
 refine cs ?_
 have hp1 := hp.o; have hp2 := hp.n; have hq1 := hq.o; have hq2 := hq.n
 refine cr ?_
 refine ls (o_box rfl rfl rfl) ?_
 refine le ?_; intro b2
 refine ls (o_box rfl rfl rfl) ?_
 refine le ?_; intro b3
 refine ls (o_alloc zeroValue39 rfl rfl) ?_
 refine le ?_; intro b4
 refine ls (o_alloc zeroValue39 rfl rfl) ?_
 refine le ?_; intro b5
 refine k_ 19 ?_
 refine cc rfl ?_ ?_
 ·
  intro h9
  try simp only [nrmZ] at h9
  refine cd [3, 6] [(1, b3, 3, _), (2, b2, 0, _)] TryzX.mixed (TOk.t (isBoxS Θ (k := 1) Δ) (TOk.t (isBoxS Θ (k := 6) Δ) TOk.d)) ?_
  refine u_ 0 3 ?_
  refine df 3 Ψ ?_
  refine doR rfl (o_call (is := []) call80 (c_grows p yp hp) rfl rfl Ω rfl) (TOk.t (isBoxE fun _ => isBoxS Θ (k := 1) Δ) (TOk.x Ψ TOk.d)) ?_
  refine ea ?_; intro x22
  refine u_ 4 2 ?_
  refine df 6 Ψ ?_
  refine doR rfl (o_st rfl sizeOf3 rfl rfl rfl rfl rfl Θ Θ Θ) tX ?_
  refine dn Ψ ?_
  refine k_ 3 ?_
  refine cd [2, 3] [(0, b3, 0, _), (1, b2, 0, _)] TryzX.mixed (TOk.t (isBoxS Θ (k := 6) Δ) (TOk.t (isBoxS Θ (k := 6) Δ) TOk.d)) ?_
  refine u_ 0 2 ?_
  refine df 2 Ψ ?_
  refine doR rfl (o_st rfl sizeOf39 rfl rfl rfl rfl rfl Θ Θ Θ) (TOk.x Ψ (TOk.t (isBoxS Θ (k := 6) Δ) TOk.d)) ?_
  refine df 3 Ψ ?_
  refine doR rfl (o_st rfl sizeOf39 rfl rfl rfl rfl rfl Θ Θ Θ) tX ?_
  refine u_ 4 1 ?_
  refine dn Ψ ?_
  refine k_ 3 ?_
  refine rret (is := []) ⟨(({ q with pos := q.pos - ((p.new.length : Int) - p.old.length) }, p, true), (yq, yp)), by rw [hunks, if_pos h9]⟩ (Or.inl rfl) (Res.c rfl isAgg39 sizeOf39 Θ (by rfl) (Res.c rfl isAgg39 sizeOf39 Θ (by rfl) (Res.t rfl Res.d))) (rfl) rfl Ω
 ·
  intro h9
  try simp only [nrmZ] at h9
  refine k_ 14 ?_
  refine cc rfl ?_ ?_
  ·
   intro h25
   try simp only [nrmZ] at h25
   refine cd [3, 6] [(1, b2, 3, _), (2, b3, 0, _)] TryzX.mixed (TOk.t (isBoxS Θ (k := 1) Δ) (TOk.t (isBoxS Θ (k := 6) Δ) TOk.d)) ?_
   refine u_ 0 3 ?_
   refine df 3 Ψ ?_
   refine doR rfl (o_call (is := []) call80 (c_grows q yq hq) rfl rfl Ω rfl) (TOk.t (isBoxE fun _ => isBoxS Θ (k := 1) Δ) (TOk.x Ψ TOk.d)) ?_
   refine ea ?_; intro x38
   refine u_ 4 2 ?_
   refine df 6 Ψ ?_
   refine doR rfl (o_st rfl sizeOf3 rfl rfl rfl rfl rfl Θ Θ Θ) tX ?_
   refine dn Ψ ?_
   refine k_ 3 ?_
   refine cd [2, 3] [(0, b3, 0, _), (1, b2, 0, _)] TryzX.mixed (TOk.t (isBoxS Θ (k := 6) Δ) (TOk.t (isBoxS Θ (k := 6) Δ) TOk.d)) ?_
   refine u_ 0 2 ?_
   refine df 2 Ψ ?_
   refine doR rfl (o_st rfl sizeOf39 rfl rfl rfl rfl rfl Θ Θ Θ) (TOk.x Ψ (TOk.t (isBoxS Θ (k := 6) Δ) TOk.d)) ?_
   refine df 3 Ψ ?_
   refine doR rfl (o_st rfl sizeOf39 rfl rfl rfl rfl rfl Θ Θ Θ) tX ?_
   refine u_ 4 1 ?_
   refine dn Ψ ?_
   refine k_ 3 ?_
   refine rret (is := []) ⟨((q, { p with pos := p.pos + ((q.new.length : Int) - q.old.length) }, true), (yq, yp)), by rw [hunks, if_neg (by omega), if_pos h25]⟩ (Or.inl rfl) (Res.c rfl isAgg39 sizeOf39 Θ (by rfl) (Res.c rfl isAgg39 sizeOf39 Θ (by rfl) (Res.t rfl Res.d))) (rfl) rfl Ω
  ·
   intro h25
   try simp only [nrmZ] at h25
   refine cs ?_
   refine cd [2, 3] [(0, b2, 0, _), (1, b3, 0, _)] TryzX.mixed (TOk.t (isBoxS Θ (k := 6) Δ) (TOk.t (isBoxS Θ (k := 6) Δ) TOk.d)) ?_
   refine u_ 0 2 ?_
   refine df 2 Ψ ?_
   refine doR rfl (o_st rfl sizeOf39 rfl rfl rfl rfl rfl Θ Θ Θ) (TOk.x Ψ (TOk.t (isBoxS Θ (k := 6) Δ) TOk.d)) ?_
   refine df 3 Ψ ?_
   refine doR rfl (o_st rfl sizeOf39 rfl rfl rfl rfl rfl Θ Θ Θ) tX ?_
   refine u_ 4 1 ?_
   refine dn Ψ ?_
   refine k_ 3 ?_
   refine rret (is := []) ⟨((p, q, false), (yp, yq)), by rw [hunks, if_neg (by omega), if_neg (by omega)]⟩ (Or.inl rfl) (Res.c rfl isAgg39 sizeOf39 Θ (by rfl) (Res.c rfl isAgg39 sizeOf39 Θ (by rfl) (Res.t rfl Res.d))) (rfl) rfl Ω
end Go.Proofs.YtmikcpaaomamiaaGreatDoor.X
end
section
set_option linter.unusedVariables false
set_option linter.unusedSimpArgs false
namespace Go.Proofs.YtmikcpaaomamiaaGreatDoor.X
open Go Go.RowKit Go.Proofs Go.Sx
open Tryz
attribute [local irreducible] slA isA box row TrL TrC TrN TrA Pu OpR
set_option maxHeartbeats 8000000
set_option maxRecDepth 100000 in
theorem c_swapped (p q : Prim) (yp yq : Rp.Lay Prim) (hp : p.fit) (hq : q.fit) (hpr : p.right = true) (hqr : q.right = true) : Con Tryz.prog 60 [sv p yp, sv q yq] [] (Rp.asn p yp ++ Rp.asn q yq) (Two (swapped p q)) (fun x => x.v) (fun _ => []) (fun x => x.g) := by
 refine con func60 rfl ntmps60 rfl ?_
 intro M0 F0 w0
 refine k_ 2 ?_
 refine ls (o_box rfl rfl rfl) ?_
 refine le ?_; intro b2
 refine ls (o_box rfl rfl rfl) ?_
 refine le ?_; intro b3
 refine ls (o_alloc zeroValue39 rfl rfl) ?_
 refine le ?_; intro b4
 refine ls (o_alloc zeroValue39 rfl rfl) ?_
 refine le ?_; intro b5
 refine k_ 10 ?_
 refine ls (o_alloc zeroValue96 rfl rfl) ?_
 refine le ?_; intro b7
 refine k_ 7 ?_
 refine ls (o_ldw isAgg96 sizeOf96 rfl Θ (by rfl) rfl) ?_
 refine k_ 1 ?_
 refine ls (op (p_aeq2 underlying96 underlying3 Ψ Ψ isAgg3 Ψ rfl rfl) rfl) ?_
 refine k_ 3 ?_
 refine cc rfl ?_ ?_
 ·
  intro h13
  have h13' := h13; simp only [Bool.and_eq_true, decide_eq_true_eq] at h13'
  refine k_ 10 ?_
  refine cc rfl ?_ ?_
  ·
   intro h21
   try simp only [nrmZ] at h21
   refine k_ 2 ?_
   refine ls (o_ldw isAgg39 sizeOf39 rfl Θ (by rfl) rfl) ?_
   refine ls (o_ldw isAgg39 sizeOf39 rfl Θ (by rfl) rfl) ?_
   refine lC [] call66 (c_hunks p q yp yq hp hq (right_pos hpr) (right_pos hqr)) ?_; rintro ⟨⟨⟨r1, r2, r3⟩, z1, z2⟩, hr⟩
   refine k_ 10 ?_
   refine rret (is := []) ⟨((r1, r2, r3), (z1, z2)), by rw [swapped, if_pos h13', if_pos h21]; exact hr⟩ (Or.inl rfl) (Res.c rfl isAgg39 sizeOf39 Θ (by rfl) (Res.c rfl isAgg39 sizeOf39 Θ (by rfl) (Res.t rfl Res.d))) (rfl) rfl Ω
  ·
   intro h21
   try simp only [nrmZ] at h21
   refine k_ 3 ?_
   refine cd [2, 3] [(0, b3, 0, _), (1, b2, 0, _)] TryzX.mixed (TOk.t (isBoxS Θ (k := 6) Δ) (TOk.t (isBoxS Θ (k := 6) Δ) TOk.d)) ?_
   refine u_ 0 2 ?_
   refine df 2 Ψ ?_
   refine doR rfl (o_st rfl sizeOf39 rfl rfl rfl rfl rfl Θ Θ Θ) (TOk.x Ψ (TOk.t (isBoxS Θ (k := 6) Δ) TOk.d)) ?_
   refine df 3 Ψ ?_
   refine doR rfl (o_st rfl sizeOf39 rfl rfl rfl rfl rfl Θ Θ Θ) tX ?_
   refine u_ 4 1 ?_
   refine dn Ψ ?_
   refine k_ 3 ?_
   refine rret (is := []) ⟨((q, p, true), (yq, yp)), by rw [swapped, if_pos h13', if_neg h21]⟩ (Or.inl rfl) (Res.c rfl isAgg39 sizeOf39 Θ (by rfl) (Res.c rfl isAgg39 sizeOf39 Θ (by rfl) (Res.t rfl Res.d))) (rfl) rfl Ω
 ·
  intro h13
  have h13' : ¬ (p.kind = 0 ∧ q.kind = 0) := by intro e; rw [e.1, e.2] at h13; exact absurd h13 (by decide)
  refine k_ 2 ?_
  refine ls (o_ldw isAgg96 sizeOf96 rfl Θ (by rfl) rfl) ?_
  refine k_ 1 ?_
  refine ls (op (p_aeq2 underlying96 underlying3 Ψ Ψ isAgg3 Ψ rfl rfl) rfl) ?_
  refine k_ 3 ?_
  refine cc rfl ?_ ?_
  ·
   intro h30
   have h30' := h30; simp only [Bool.and_eq_true, decide_eq_true_eq] at h30'
   refine k_ 10 ?_
   refine cc rfl ?_ ?_
   ·
    intro h38
    try simp only [nrmZ] at h38
    refine k_ 9 ?_
    refine cd [2, 3] [(0, b3, 0, _), (1, b2, 0, _)] TryzX.mixed (TOk.t (isBoxS Θ (k := 6) Δ) (TOk.t (isBoxS Θ (k := 6) Δ) TOk.d)) ?_
    refine u_ 0 2 ?_
    refine df 2 Ψ ?_
    refine doR rfl (o_st rfl sizeOf39 rfl rfl rfl rfl rfl Θ Θ Θ) (TOk.x Ψ (TOk.t (isBoxS Θ (k := 6) Δ) TOk.d)) ?_
    refine df 3 Ψ ?_
    refine doR rfl (o_st rfl sizeOf39 rfl rfl rfl rfl rfl Θ Θ Θ) tX ?_
    refine u_ 4 1 ?_
    refine dn Ψ ?_
    refine k_ 3 ?_
    refine rret (is := []) ⟨((q, { p with name := q.to }, true), (yq, yp)), by rw [swapped, if_neg h13', if_pos h30', if_pos h38]⟩ (Or.inl rfl) (Res.c rfl isAgg39 sizeOf39 Θ (by rfl) (Res.c rfl isAgg39 sizeOf39 Θ (by rfl) (Res.t rfl Res.d))) (rfl) rfl Ω
   ·
    intro h38
    try simp only [nrmZ] at h38
    refine k_ 3 ?_
    refine cd [7, 8] [(0, b3, 0, _), (1, b2, 0, _), (3, b2, 1, _), (5, b3, 2, _)] TryzX.mixed (TOk.t (isBoxS Θ (k := 6) Δ) (TOk.t (isBoxS Θ (k := 6) Δ) (TOk.t (isBoxS Θ (k := 1) Δ) (TOk.t (isBoxS Θ (k := 1) Δ) TOk.d)))) ?_
    refine u_ 0 7 ?_
    refine df 7 Ψ ?_
    refine doR rfl (o_st rfl sizeOf39 rfl rfl rfl rfl rfl Θ Θ Θ) (TOk.x Ψ (TOk.t (isBoxS Θ (k := 6) Δ) (TOk.t (isBoxS Θ (k := 1) Δ) (TOk.t (isBoxS Θ (k := 1) Δ) TOk.d)))) ?_
    refine df 8 Ψ ?_
    refine doR rfl (o_st rfl sizeOf39 rfl rfl rfl rfl rfl Θ Θ Θ) (TOk.x Ψ (TOk.x Ψ (TOk.t (isBoxS Θ (k := 1) Δ) (TOk.t (isBoxS Θ (k := 1) Δ) TOk.d)))) ?_
    refine u_ 9 1 ?_
    refine dn Ψ ?_
    refine k_ 3 ?_
    refine rret (is := []) ⟨((q, p, !decide (p.name = q.to)), (yq, yp)), by rw [swapped, if_neg h13', if_pos h30', if_neg h38]⟩ (Or.inl rfl) (Res.c rfl isAgg39 sizeOf39 Θ (by rfl) (Res.c rfl isAgg39 sizeOf39 Θ (by rfl) (Res.t rfl Res.d))) (rfl) rfl Ω
  ·
   intro h30
   have h30' : ¬ (p.kind = 0 ∧ q.kind = 3) := by intro e; rw [e.1, e.2] at h30; exact absurd h30 (by decide)
   refine k_ 2 ?_
   refine ls (o_ldw isAgg96 sizeOf96 rfl Θ (by rfl) rfl) ?_
   refine k_ 1 ?_
   refine ls (op (p_aeq2 underlying96 underlying3 Ψ Ψ isAgg3 Ψ rfl rfl) rfl) ?_
   refine k_ 3 ?_
   refine cc rfl ?_ ?_
   ·
    intro h51
    have h51' := h51; simp only [Bool.and_eq_true, decide_eq_true_eq] at h51'
    refine k_ 10 ?_
    refine cc rfl ?_ ?_
    ·
     intro h59
     try simp only [nrmZ] at h59
     refine k_ 9 ?_
     refine cd [2, 3] [(0, b3, 0, _), (1, b2, 0, _)] TryzX.mixed (TOk.t (isBoxS Θ (k := 6) Δ) (TOk.t (isBoxS Θ (k := 6) Δ) TOk.d)) ?_
     refine u_ 0 2 ?_
     refine df 2 Ψ ?_
     refine doR rfl (o_st rfl sizeOf39 rfl rfl rfl rfl rfl Θ Θ Θ) (TOk.x Ψ (TOk.t (isBoxS Θ (k := 6) Δ) TOk.d)) ?_
     refine df 3 Ψ ?_
     refine doR rfl (o_st rfl sizeOf39 rfl rfl rfl rfl rfl Θ Θ Θ) tX ?_
     refine u_ 4 1 ?_
     refine dn Ψ ?_
     refine k_ 3 ?_
     refine rret (is := []) ⟨(({ q with name := p.name }, p, true), (yq, yp)), by rw [swapped, if_neg h13', if_neg h30', if_pos h51', if_pos h59]⟩ (Or.inl rfl) (Res.c rfl isAgg39 sizeOf39 Θ (by rfl) (Res.c rfl isAgg39 sizeOf39 Θ (by rfl) (Res.t rfl Res.d))) (rfl) rfl Ω
    ·
     intro h59
     try simp only [nrmZ] at h59
     refine k_ 3 ?_
     refine cd [7, 8] [(0, b3, 0, _), (1, b2, 0, _), (3, b2, 1, _), (5, b3, 1, _)] TryzX.mixed (TOk.t (isBoxS Θ (k := 6) Δ) (TOk.t (isBoxS Θ (k := 6) Δ) (TOk.t (isBoxS Θ (k := 1) Δ) (TOk.t (isBoxS Θ (k := 1) Δ) TOk.d)))) ?_
     refine u_ 0 7 ?_
     refine df 7 Ψ ?_
     refine doR rfl (o_st rfl sizeOf39 rfl rfl rfl rfl rfl Θ Θ Θ) (TOk.x Ψ (TOk.t (isBoxS Θ (k := 6) Δ) (TOk.t (isBoxS Θ (k := 1) Δ) (TOk.t (isBoxS Θ (k := 1) Δ) TOk.d)))) ?_
     refine df 8 Ψ ?_
     refine doR rfl (o_st rfl sizeOf39 rfl rfl rfl rfl rfl Θ Θ Θ) (TOk.x Ψ (TOk.x Ψ (TOk.t (isBoxS Θ (k := 1) Δ) (TOk.t (isBoxS Θ (k := 1) Δ) TOk.d)))) ?_
     refine u_ 9 1 ?_
     refine dn Ψ ?_
     refine k_ 3 ?_
     refine rret (is := []) ⟨((q, p, !decide (p.name = q.name)), (yq, yp)), by rw [swapped, if_neg h13', if_neg h30', if_pos h51', if_neg h59]⟩ (Or.inl rfl) (Res.c rfl isAgg39 sizeOf39 Θ (by rfl) (Res.c rfl isAgg39 sizeOf39 Θ (by rfl) (Res.t rfl Res.d))) (rfl) rfl Ω
   ·
    intro h51
    have h51' : ¬ (p.kind = 3 ∧ q.kind = 0) := by intro e; rw [e.1, e.2] at h51; exact absurd h51 (by decide)
    refine k_ 4 ?_
    refine cd [4, 6, 7] [(0, b3, 0, _), (1, b2, 0, _), (2, b2, 0, _), (3, b3, 0, _)] TryzX.mixed (TOk.t (isBoxS Θ (k := 6) Δ) (TOk.t (isBoxS Θ (k := 6) Δ) (TOk.t (isBoxS Θ (k := 6) Δ) (TOk.t (isBoxS Θ (k := 6) Δ) TOk.d)))) ?_
    refine u_ 0 4 ?_
    refine df 4 Ψ ?_
    refine doR rfl (o_call (is := []) call67 (c_shares p q yp yq) rfl rfl Ω rfl) (TOk.t (isBoxE fun _ => isBoxS Θ (k := 6) Δ) (TOk.t (isBoxE fun _ => isBoxS Θ (k := 6) Δ) (TOk.x Ψ (TOk.x Ψ TOk.d)))) ?_
    refine ea ?_; intro x76
    refine u_ 5 1 ?_
    refine df 6 Ψ ?_
    refine doR rfl (o_st rfl sizeOf39 rfl rfl rfl rfl rfl Θ Θ Θ) (TOk.x Ψ (TOk.t (isBoxS Θ (k := 6) Δ) (TOk.x Ψ (TOk.x Ψ TOk.d)))) ?_
    refine df 7 Ψ ?_
    refine doR rfl (o_st rfl sizeOf39 rfl rfl rfl rfl rfl Θ Θ Θ) tX ?_
    refine u_ 8 1 ?_
    refine dn Ψ ?_
    refine k_ 3 ?_
    refine rret (is := []) ⟨((q, p, !p.meets q), (yq, yp)), by rw [swapped, if_neg h13', if_neg h30', if_neg h51']⟩ (Or.inl rfl) (Res.c rfl isAgg39 sizeOf39 Θ (by rfl) (Res.c rfl isAgg39 sizeOf39 Θ (by rfl) (Res.t rfl Res.d))) (rfl) rfl Ω
set_option maxRecDepth 100000 in
theorem c_Swap (p q : Prim) (yp yq : Rp.Lay Prim) (hp : p.fit) (hq : q.fit) : Con Tryz.prog 54 [sv p yp, sv q yq] [] (Rp.asn p yp ++ Rp.asn q yq) (Two (swap p q)) (fun x => x.v) (fun _ => []) (fun x => x.g) := by
 refine con func54 rfl ntmps54 rfl ?_
 intro M0 F0 w0
 refine k_ 2 ?_
 refine ls (o_box rfl rfl rfl) ?_
 refine le ?_; intro b2
 refine ls (o_box rfl rfl rfl) ?_
 refine le ?_; intro b3
 refine ls (o_alloc zeroValue39 rfl rfl) ?_
 refine le ?_; intro b4
 refine ls (o_alloc zeroValue39 rfl rfl) ?_
 refine le ?_; intro b5
 refine k_ 6 ?_
 refine ls (o_ldw isAgg39 sizeOf39 rfl Θ (by rfl) rfl) ?_
 refine lC [] call51 (c_primRight p yp hp) ?_; intro x8
 refine k_ 1 ?_
 refine andX 3 9 12 rfl (sL [0, 1, 2, 3, 4, 5, 6]) ?_ ?_
 ·
  intro h9
  refine k_ 3 ?_
  refine ln (nmid (wk0 Φ Ω))
 apply exI
 ·
  intro h9
  refine lwant rfl rfl rfl rfl (o_ldw isAgg39 sizeOf39 rfl Θ (by rfl) rfl) ?_
  refine lwant rfl rfl rfl rfl (o_call (is := []) call51 (c_primRight q yq hq) rfl rfl Ω rfl) ?_
  refine le ?_; intro x11
  refine k_ 1 ?_
  refine ln (nmid (wk0 Φ Ω))
 ·
  refine k_ 2 ?_
  refine cc rfl ?_ ?_
  ·
   intro h12
   have h12' := h12; simp only [Bool.and_eq_true, decide_eq_true_eq] at h12'
   refine cr ?_
   refine ls (o_ldw isAgg39 sizeOf39 rfl Θ (by rfl) rfl) ?_
   refine ls (o_ldw isAgg39 sizeOf39 rfl Θ (by rfl) rfl) ?_
   refine lC [] call60 (c_swapped p q yp yq hp hq h12'.1 h12'.2) ?_; rintro ⟨⟨⟨r1, r2, r3⟩, z1, z2⟩, hr⟩
   obtain ⟨hf1, hf2⟩ := swapped_fit hp hq; rw [← hr] at hf1 hf2; dsimp only at hr hf1 hf2
   refine k_ 15 ?_
   refine orX 4 22 26 rfl (sL [0, 1, 2, 3, 4, 5, 6, 12, 14, 15, 16, 13, 17, 18, 19]) ?_ ?_
   ·
    intro h22
    refine k_ 4 ?_
    refine ln (nmid (wk0 Φ Ω))
   apply exI
   ·
    intro h22
    refine lwant rfl rfl rfl rfl (o_ldw isAgg39 sizeOf39 rfl Θ (by rfl) rfl) ?_
    refine lwant rfl rfl rfl rfl (o_call (is := []) call51 (c_primRight r1 z1 hf1) rfl rfl Ω rfl) ?_
    refine le ?_; intro x24
    refine k_ 2 ?_
    refine ln (nmid (wk0 Φ Ω))
   ·
    refine k_ 1 ?_
    refine orX 4 27 31 rfl (sL [0, 1, 2, 3, 4, 5, 6, 12, 14, 15, 16, 13, 17, 18, 19]) ?_ ?_
    ·
     intro h27
     refine k_ 4 ?_
     refine ln (nmid (wk0 Φ Ω))
    apply exI
    ·
     intro h27
     refine lwant rfl rfl rfl rfl (o_ldw isAgg39 sizeOf39 rfl Θ (by rfl) rfl) ?_
     refine lwant rfl rfl rfl rfl (o_call (is := []) call51 (c_primRight r2 z2 hf2) rfl rfl Ω rfl) ?_
     refine le ?_; intro x29
     refine k_ 2 ?_
     refine ln (nmid (wk0 Φ Ω))
    ·
     refine k_ 2 ?_
     refine cc rfl ?_ ?_
     ·
      intro h31
      dsimp only at h31
      refine cs ?_
      refine cmono (fun a w h => nilSl (α := ByteArray) h) ?_
      refine k_ 10 ?_
      refine rret (is := []) ⟨((Prim.zero, Prim.zero, false), (((none, 0), (none, 0)), ((none, 0), (none, 0)))), by rw [swap, ← hr]; cases r3 <;> cases e1 : r1.right <;> cases e2 : r2.right <;> simp_all⟩ (Or.inl rfl) (Res.c rfl isAgg39 sizeOf39 Θ (by rfl) (Res.c rfl isAgg39 sizeOf39 Θ (by rfl) (Res.t rfl Res.d))) (rfl) rfl Ω
     ·
      intro h31
      dsimp only at h31
      refine k_ 3 ?_
      refine cd [1, 3, 4, 5] [(0, b4, 0, _), (2, b5, 0, _)] TryzX.mixed (TOk.t (isBoxS Θ (k := 6) Δ) (TOk.t (isBoxS Θ (k := 6) Δ) TOk.d)) ?_
      refine u_ 0 1 ?_
      refine u_ 2 1 ?_
      refine df 1 Ψ ?_
      refine doR rfl (o_call (is := []) call35 (c_primClone r1 z1 hf1) rfl rfl Ω rfl) (TOk.x Ψ (TOk.t (isBoxE fun _ => isBoxS Θ (k := 6) Δ) TOk.d)) ?_
      refine ea ?_; intro y1
      refine df 3 Ψ ?_
      refine doR rfl (o_call (is := []) call35 (c_primClone r2 z2 hf2) rfl rfl Ω rfl) tX ?_
      refine ea ?_; intro y2
      refine df 4 Ψ ?_
      refine doR rfl (o_st rfl sizeOf39 rfl rfl rfl rfl rfl Θ Θ Θ) tX ?_
      refine df 5 Ψ ?_
      refine doR rfl (o_st rfl sizeOf39 rfl rfl rfl rfl rfl Θ Θ Θ) tX ?_
      refine u_ 6 1 ?_
      refine dn Ψ ?_
      refine k_ 3 ?_
      refine rret (is := []) ⟨((r1, r2, true), (y1, y2)), by rw [swap, ← hr]; cases r3 <;> cases e1 : r1.right <;> cases e2 : r2.right <;> simp_all⟩ (Or.inl rfl) (Res.c rfl isAgg39 sizeOf39 Θ (by rfl) (Res.c rfl isAgg39 sizeOf39 Θ (by rfl) (Res.t rfl Res.d))) (rfl) rfl Ω
  ·
   intro h12
   have h12' : (p.right && q.right) = false := h12
   refine k_ 19 ?_
   refine cc rfl (fun h => ?_) (fun h => by cases h)
   refine cs ?_
   refine cmono (fun a w h => nilSl (α := ByteArray) h) ?_
   refine k_ 10 ?_
   refine rret (is := []) ⟨((Prim.zero, Prim.zero, false), (((none, 0), (none, 0)), ((none, 0), (none, 0)))), by rw [swap, h12']; rfl⟩ (Or.inl rfl) (Res.c rfl isAgg39 sizeOf39 Θ (by rfl) (Res.c rfl isAgg39 sizeOf39 Θ (by rfl) (Res.t rfl Res.d))) (rfl) rfl Ω
end Go.Proofs.YtmikcpaaomamiaaGreatDoor.X
end
section
set_option linter.unusedVariables false
set_option linter.unusedSimpArgs false
namespace Go.Proofs.YtmikcpaaomamiaaGreatDoor.X
open Go Go.RowKit Go.Proofs Go.Sx
open Tryz
attribute [local irreducible] slA isA box row TrL TrC TrN TrA Pu OpR
set_option maxHeartbeats 8000000
theorem byteAt_eq (s : ByteArray) (k : Nat) (h : k < (ofB s).length) : byteAt s k = ((ofB s)[k]).toNat := by
 unfold byteAt
 rw [List.getD_eq_getElem?_getD, List.getElem?_eq_getElem (show k < s.data.toList.length from h)]
 rfl
theorem take_no10 {l : List UInt8} {k : Nat} (hk : k < l.length) (h : (l.take k).contains 10 = false) (hn : ¬ l[k].toNat = 10) : (l.take (k + 1)).contains 10 = false := by
 rw [List.take_succ_eq_append_getElem hk]
 simp only [List.contains_eq_mem, List.mem_append, List.mem_singleton, decide_eq_false_iff_not, not_or] at h ⊢
 exact ⟨h, fun e => hn (by rw [← e]; rfl)⟩
theorem has10 {l : List UInt8} {k : Nat} (hk : k < l.length) (hn : l[k].toNat = 10) : l.contains 10 = true := by
 have e : l[k] = 10 := UInt8.toNat_inj.1 hn
 simp only [List.contains_eq_mem, decide_eq_true_eq]
 rw [← e]
 exact List.getElem_mem hk
theorem all_not {α : Type} {f : α → Bool} {l : List α} {x : α} (h : x ∈ l) (hf : f x = false) : l.all f = false := by
 rw [List.all_eq_false]
 exact ⟨x, h, by simp [hf]⟩
theorem named_byte {b : UInt8} {c : Nat} (h : c = b.toNat) : (!(decide ((97 : Int) ≤ (c : Int)) && decide ((c : Int) ≤ 122)) && !(decide ((48 : Int) ≤ (c : Int)) && decide ((c : Int) ≤ 57)) && !decide ((c : Int) = 46) && !decide ((c : Int) = 45) && !decide ((c : Int) = 95) && !decide ((c : Int) = 47)) = !nameB b := by
 subst h
 unfold nameB
 rw [Bool.eq_iff_iff]
 simp
 omega
set_option maxRecDepth 100000 in
theorem c_refLine (s : ByteArray) (hs : s.size ≤ 2000000) : Con Tryz.prog 13 [.string s] [] [] Unit (fun _ => .bool (lineOk s)) (fun _ => []) (fun _ => []) := by
 refine con func13 rfl ntmps13 rfl ?_
 intro M0 F0 w0
 refine k_ 12 ?_
 refine cl (ι := {k : Nat // k ≤ s.size ∧ ((ofB s).take k).contains 10 = false}) (fun i => St M0 F0 w0 17 [(0, .string s), (3, .int .i64 (i.1 : Int))] [] []) (fun i => s.size - i.1) ⟨0, by simp⟩ (wk0 Φ Ω) ?_
 rintro ⟨k, hk, hkk⟩
 refine cmono (S' := St M0 F0 w0 17 [(0, .string s), (3, .int .i64 (k : Int))] [] []) Ħ ?_
 refine k_ 9 ?_
 refine cc rfl ?_ ?_
 ·
  intro h7
  try simp only [nrmZ] at h7
  have hk1 : k < s.size := by omega
  have hk2 : k < (ofB s).length := hk1
  have hb := byteAt_eq s k hk2
  refine k_ 8 ?_
  refine ls (op (p_idxs k hk1 rfl underlying9 rfl rfl) rfl) ?_
  refine k_ 3 ?_
  refine cc rfl ?_ ?_
  ·
   intro h13
   try simp only [nrmZ] at h13
   refine k_ 7 ?_
   refine rret (is := []) () (Or.inl rfl) (Res.t rfl Res.d) ?_ rfl Ω
   simp only [packV, lineOk]; rw [has10 hk2 (by omega)]; simp
  ·
   intro h13
   try simp only [nrmZ] at h13
   refine k_ 8 ?_
   refine nnext ⟨k + 1, hk1, take_no10 hk2 hkk (by omega)⟩ (by dsimp only; omega) (wk0 Φ Ω)
 ·
  intro h7
  try simp only [nrmZ] at h7
  refine k_ 15 ?_
  refine rret (is := []) () (Or.inl rfl) (Res.t rfl Res.d) ?_ rfl Ω
  simp only [packV, lineOk]; rw [List.take_of_length_le (by show s.size ≤ k; omega)] at hkk; rw [hkk]; simp
set_option maxRecDepth 100000 in
theorem c_refAll (l : List ByteArray) (A : Option Addr) (c : Nat) (hl : l.length ≤ 2000000) (hs : ∀ s ∈ l, s.size ≤ 2000000) : Con Tryz.prog 42 [.slice A l.length c] [] [slA A l] Unit (fun _ => .bool (l.all lineOk)) (fun _ => []) (fun _ => []) := by
 refine con func42 rfl ntmps42 rfl ?_
 intro M0 F0 w0
 refine k_ 12 ?_
 refine cl (ι := {k : Nat // k ≤ l.length ∧ (l.take k).all lineOk = true}) (fun i => St M0 F0 w0 16 [(0, .slice A l.length c), (3, .int .i64 (i.1 : Int))] [] [slA A l]) (fun i => l.length - i.1) ⟨0, by simp⟩ (wk0 Φ Ω) ?_
 rintro ⟨k, hk, hkk⟩
 refine cmono (S' := St M0 F0 w0 16 [(0, .slice A l.length c), (3, .int .i64 (k : Int))] [] [slA A l]) Ħ ?_
 refine k_ 9 ?_
 refine cc rfl ?_ ?_
 ·
  intro h7
  try simp only [nrmZ] at h7
  have hk1 : k < l.length := by omega
  refine k_ 5 ?_
  refine elC Θ k (List.getElem?_eq_getElem (l := l) hk1) ?_; rintro zbp zop zyp hAp
  refine k_ 3 ?_
  refine ls (op (p_ia k hAp hk1 rfl underlying37 sizeOf9 rfl rfl) rfl) ?_
  refine ls (o_ldi isAgg9 rfl Θ 0 rfl Δ rfl) ?_
  refine lC [] call13 (c_refLine _ (hs _ (List.getElem_mem hk1))) ?_; intro x14
  refine k_ 3 ?_
  refine cc rfl ?_ ?_
  ·
   intro h15
   try simp only [nrmZ] at h15
   refine k_ 7 ?_
   refine rret (is := []) () (Or.inl rfl) (Res.t rfl Res.d) ?_ rfl Ω
   simp only [packV]; rw [all_not (List.getElem_mem hk1) h15]
  ·
   intro h15
   try simp only [nrmZ] at h15
   refine k_ 8 ?_
   refine nnext ⟨k + 1, hk1, by rw [List.take_succ_eq_append_getElem hk1, List.all_append, hkk]; simp [h15]⟩ (by dsimp only; omega) (wk0 Φ Ω)
 ·
  intro h7
  try simp only [nrmZ] at h7
  refine k_ 12 ?_
  refine rret (is := []) () (Or.inl rfl) (Res.t rfl Res.d) ?_ rfl Ω
  simp only [packV]; rw [List.take_of_length_le (by omega)] at hkk; rw [hkk]
set_option maxRecDepth 100000 in
theorem c_refSame1 (l m : List ByteArray) (A B : Option Addr) (c c' : Nat) (hl : l.length ≤ 2000000) : Con Tryz.prog 43 [.slice A l.length c, .slice B m.length c'] [] [slA A l, slA B m] Unit (fun _ => .bool (decide (l = m))) (fun _ => []) (fun _ => []) := by
 refine con func43 rfl ntmps43 rfl ?_
 intro M0 F0 w0
 refine k_ 15 ?_
 refine cc rfl ?_ ?_
 ·
  intro h10
  try simp only [nrmZ] at h10
  refine k_ 7 ?_
  refine rret (is := []) () (Or.inl rfl) (Res.t rfl Res.d) ?_ rfl Ω
  simp [packV]; intro e; rw [e] at h10; exact h10 rfl
 ·
  intro h10
  try simp only [nrmZ] at h10
  refine k_ 9 ?_
  refine cl (ι := {k : Nat // k ≤ l.length ∧ l.take k = m.take k}) (fun i => St M0 F0 w0 26 [(0, .slice A l.length c), (1, .slice B m.length c'), (5, .int .i64 (i.1 : Int))] [] [slA A l, slA B m]) (fun i => l.length - i.1) ⟨0, by simp⟩ (wk0 Φ Ω) ?_
  rintro ⟨k, hk, hkk⟩
  refine cmono (S' := St M0 F0 w0 26 [(0, .slice A l.length c), (1, .slice B m.length c'), (5, .int .i64 (k : Int))] [] [slA A l, slA B m]) Ħ ?_
  refine k_ 9 ?_
  refine cc rfl ?_ ?_
  ·
   intro h14
   try simp only [nrmZ] at h14
   have hk1 : k < l.length := by omega
   have hk2 : k < m.length := by omega
   refine k_ 5 ?_
   refine elC Θ k (List.getElem?_eq_getElem (l := l) hk1) ?_; rintro zbp zop zyp hAp
   refine elC Θ k (List.getElem?_eq_getElem (l := m) hk2) ?_; rintro zbq zoq zyq hAq
   refine cd [] [(3, zbp, zop + k * Rp.size ByteArray, _), (7, zbq, zoq + k * Rp.size ByteArray, _)] TryzX.mixed (TOk.t (isInS Θ (k := 0) rfl (z := 1) Δ) (TOk.t (isInS Θ (k := 0) rfl (z := 1) Δ) TOk.d)) ?_
   refine u_ 0 2 ?_
   refine tk 2 rfl Ψ Υ gnone (TTany _) (p_ia k hAp hk1 rfl underlying37 sizeOf9 rfl rfl) rfl ?_
   refine u_ 3 3 ?_
   refine tk 6 rfl Ψ Υ gnone (TTany _) (p_ia k hAq hk2 rfl underlying37 sizeOf9 rfl rfl) rfl ?_
   refine u_ 7 2 ?_
   refine dn Ψ ?_
   refine k_ 1 ?_
   refine cc rfl ?_ ?_
   ·
    intro h25
    try simp only [nrmZ] at h25
    refine k_ 7 ?_
    refine rret (is := []) () (Or.inl rfl) (Res.t rfl Res.d) ?_ rfl Ω
    simp [packV]; rintro rfl; exact h25 rfl
   ·
    intro h25
    try simp only [nrmZ] at h25
    refine k_ 8 ?_
    refine nnext ⟨k + 1, hk1, by rw [List.take_succ_eq_append_getElem hk1, List.take_succ_eq_append_getElem hk2, hkk, h25]⟩ (by dsimp only; omega) (wk0 Φ Ω)
  ·
   intro h14
   try simp only [nrmZ] at h14
   refine k_ 12 ?_
   refine rret (is := []) () (Or.inl rfl) (Res.t rfl Res.d) ?_ rfl Ω
   simp [packV]; have := List.take_of_length_le (l := l) (i := k) (by omega); have := List.take_of_length_le (l := m) (i := k) (by omega); simp_all
set_option maxRecDepth 100000 in
theorem c_refNamed (s : ByteArray) (hs : s.size ≤ 2000000) : Con Tryz.prog 41 [.string s] [] [] Unit (fun _ => .bool (nameOk s)) (fun _ => []) (fun _ => []) := by
 refine con func41 rfl ntmps41 rfl ?_
 intro M0 F0 w0
 refine k_ 12 ?_
 refine cl (ι := {k : Nat // k ≤ s.size ∧ ((ofB s).take k).all nameB = true}) (fun i => St M0 F0 w0 54 [(0, .string s), (3, .int .i64 (i.1 : Int))] [] []) (fun i => s.size - i.1) ⟨0, by simp⟩ (wk0 Φ Ω) ?_
 rintro ⟨k, hk, hkk⟩
 refine cmono (S' := St M0 F0 w0 54 [(0, .string s), (3, .int .i64 (k : Int))] [] []) Ħ ?_
 refine k_ 9 ?_
 refine cc rfl ?_ ?_
 ·
  intro h8
  try simp only [nrmZ] at h8
  have hk1 : k < s.size := by omega
  have hk2 : k < (ofB s).length := hk1
  have hb := byteAt_eq s k hk2
  refine k_ 8 ?_
  refine ls (op (p_idxs k hk1 rfl underlying9 rfl rfl) rfl) ?_
  refine k_ 8 ?_
  refine andX 3 16 19 rfl (sL [0, 3, 5, 6, 7, 8, 11, 12, 13, 4]) ?_ ?_
  ·
   intro h16
   refine k_ 3 ?_
   refine ln (nmid (wk0 Φ Ω))
  apply exI
  ·
   intro h16
   refine k_ 3 ?_
   refine ln (nmid (wk0 Φ Ω))
  ·
   refine k_ 2 ?_
   refine andX 8 21 29 rfl (sL [0, 3, 5, 6, 7, 8, 11, 12, 13, 4]) ?_ ?_
   ·
    intro h21
    refine k_ 8 ?_
    refine ln (nmid (wk0 Φ Ω))
   apply exI
   ·
    intro h21
    refine k_ 3 ?_
    refine andX 3 24 27 rfl (sL [0, 3, 5, 6, 7, 8, 11, 12, 13, 4, 21]) ?_ ?_
    ·
     intro h24
     refine k_ 3 ?_
     refine ln (nmid (wk0 Φ Ω))
    apply exI
    ·
     intro h24
     refine k_ 3 ?_
     refine ln (nmid (wk0 Φ Ω))
    ·
     refine k_ 2 ?_
     refine ln (nmid (wk0 Φ Ω))
   ·
    refine k_ 1 ?_
    refine andX 3 30 33 rfl (sL [0, 3, 5, 6, 7, 8, 11, 12, 13, 4]) ?_ ?_
    ·
     intro h30
     refine k_ 3 ?_
     refine ln (nmid (wk0 Φ Ω))
    apply exI
    ·
     intro h30
     refine k_ 3 ?_
     refine ln (nmid (wk0 Φ Ω))
    ·
     refine k_ 1 ?_
     refine andX 3 34 37 rfl (sL [0, 3, 5, 6, 7, 8, 11, 12, 13, 4]) ?_ ?_
     ·
      intro h34
      refine k_ 3 ?_
      refine ln (nmid (wk0 Φ Ω))
     apply exI
     ·
      intro h34
      refine k_ 3 ?_
      refine ln (nmid (wk0 Φ Ω))
     ·
      refine k_ 1 ?_
      refine andX 3 38 41 rfl (sL [0, 3, 5, 6, 7, 8, 11, 12, 13, 4]) ?_ ?_
      ·
       intro h38
       refine k_ 3 ?_
       refine ln (nmid (wk0 Φ Ω))
      apply exI
      ·
       intro h38
       refine k_ 3 ?_
       refine ln (nmid (wk0 Φ Ω))
      ·
       refine k_ 1 ?_
       refine andX 3 42 45 rfl (sL [0, 3, 5, 6, 7, 8, 11, 12, 13]) ?_ ?_
       ·
        intro h42
        refine k_ 3 ?_
        refine ln (nmid (wk0 Φ Ω))
       apply exI
       ·
        intro h42
        refine k_ 3 ?_
        refine ln (nmid (wk0 Φ Ω))
       ·
        refine k_ 2 ?_
        refine cc rfl ?_ ?_
        ·
         intro h45
         have h46 := named_byte hb ▸ h45
         refine k_ 7 ?_
         refine rret (is := []) () (Or.inl rfl) (Res.t rfl Res.d) ?_ rfl Ω
         simp only [packV, nameOk]; rw [all_not (List.getElem_mem hk2) (by simpa using h46)]; simp
        ·
         intro h45
         have h46 := named_byte hb ▸ h45
         refine k_ 8 ?_
         refine nnext ⟨k + 1, hk1, by rw [List.take_succ_eq_append_getElem hk2, List.all_append, hkk]; simpa using h46⟩ (by dsimp only; omega) (wk0 Φ Ω)
 ·
  intro h8
  try simp only [nrmZ] at h8
  refine k_ 11 ?_
  refine andX 4 49 53 rfl (sL [0, 3, 5, 6, 7, 8]) ?_ ?_
  ·
   intro h49
   refine k_ 4 ?_
   refine ln (nmid (wk0 Φ Ω))
  apply exI
  ·
   intro h49
   refine k_ 4 ?_
   refine ln (nmid (wk0 Φ Ω))
  ·
   refine k_ 5 ?_
   refine rret (is := []) () (Or.inl rfl) (Res.t rfl Res.d) ?_ rfl Ω
   simp only [packV, nameOk]; rw [List.take_of_length_le (by show s.size ≤ k; omega)] at hkk; rw [hkk]; simp
end Go.Proofs.YtmikcpaaomamiaaGreatDoor.X
end
section
set_option linter.unusedVariables false
set_option linter.unusedSimpArgs false
namespace Go.Proofs.YtmikcpaaomamiaaGreatDoor.X
open Go Go.RowKit Go.Proofs Go.Sx
open Tryz
attribute [local irreducible] slA isA box row TrL TrC TrN TrA Pu OpR
set_option maxHeartbeats 8000000
set_option maxRecDepth 100000 in
theorem c_refRight (p : Prim) (y : Rp.Lay Prim) (hp : p.fit) : Con Tryz.prog 27 [sv p y] [] (Rp.asn p y) Unit (fun _ => .bool (p.right)) (fun _ => []) (fun _ => []) := by
 refine con func27 rfl ntmps27 rfl ?_
 intro M0 F0 w0
 refine k_ 2 ?_
 refine ls (o_box rfl rfl rfl) ?_
 refine le ?_; intro b1
 refine k_ 8 ?_
 refine lC [] call41 (c_refNamed _ hp.a) ?_; intro x5
 refine k_ 2 ?_
 refine orX 4 7 11 rfl (sL [0, 1, 2]) ?_ ?_
 ·
  intro h7
  refine k_ 4 ?_
  refine ln (nmid (wk0 Φ Ω))
 apply exI
 ·
  intro h7
  refine k_ 4 ?_
  refine ln (nmid (wk0 Φ Ω))
 ·
  refine k_ 1 ?_
  refine orX 4 12 16 rfl (sL [0, 1, 2]) ?_ ?_
  ·
   intro h12
   refine k_ 4 ?_
   refine ln (nmid (wk0 Φ Ω))
  apply exI
  ·
   intro h12
   refine k_ 4 ?_
   refine ln (nmid (wk0 Φ Ω))
  ·
   refine k_ 2 ?_
   refine cc rfl ?_ ?_
   ·
    intro h16
    skip
    refine k_ 7 ?_
    refine rret (is := []) () (Or.inl rfl) (Res.t rfl Res.d) ?_ rfl Ω
    rw [← refRight_eq, refRight, if_pos h16]; rfl
   ·
    intro h16
    have h16' := Bool.eq_false_iff.1 h16
    refine k_ 10 ?_
    refine cc rfl ?_ ?_
    ·
     intro h19
     try simp only [nrmZ] at h19
     refine k_ 7 ?_
     refine orX 4 23 27 rfl (sL [0, 1, 2, 16, 17, 18, 19]) ?_ ?_
     ·
      intro h23
      refine k_ 4 ?_
      refine ln (nmid (wk0 Φ Ω))
     apply exI
     ·
      intro h23
      refine k_ 4 ?_
      refine ln (nmid (wk0 Φ Ω))
     ·
      refine k_ 1 ?_
      refine orX 4 28 32 rfl (sL [0, 1, 2, 16, 17, 18, 19]) ?_ ?_
      ·
       intro h28
       refine k_ 4 ?_
       refine ln (nmid (wk0 Φ Ω))
      apply exI
      ·
       intro h28
       refine k_ 4 ?_
       refine ln (nmid (wk0 Φ Ω))
      ·
       refine k_ 2 ?_
       refine cc rfl ?_ ?_
       ·
        intro h32
        skip
        refine k_ 7 ?_
        refine rret (is := []) () (Or.inl rfl) (Res.t rfl Res.d) ?_ rfl Ω
        rw [← refRight_eq, refRight, if_neg h16', if_pos h19, if_pos h32]; rfl
       ·
        intro h32
        have h32' := Bool.eq_false_iff.1 h32
        refine k_ 6 ?_
        refine lC [] call42 (c_refAll p.old _ _ hp.o hp.os) ?_; intro x35
        refine k_ 1 ?_
        refine andX 4 36 40 rfl (sL [0, 1, 2, 16, 17, 18, 19, 32]) ?_ ?_
        ·
         intro h36
         refine k_ 4 ?_
         refine ln (nmid (wk0 Φ Ω))
        apply exI
        ·
         intro h36
         refine k_ 2 ?_
         refine lwant rfl rfl rfl rfl (o_call (is := []) call42 (c_refAll p.new _ _ hp.n hp.ns) rfl rfl Ω rfl) ?_
         refine le ?_; intro x39
         refine k_ 1 ?_
         refine ln (nmid (wk0 Φ Ω))
        ·
         refine k_ 1 ?_
         refine andX 7 41 48 rfl (sL [0, 1, 2, 16, 17, 18, 19, 32]) ?_ ?_
         ·
          intro h41
          refine k_ 7 ?_
          refine ln (nmid (wk0 Φ Ω))
         apply exI
         ·
          intro h41
          refine k_ 4 ?_
          refine lwant rfl rfl rfl rfl (o_call (is := []) call43 (c_refSame1 p.old p.new _ _ _ _ hp.o) rfl rfl Ω rfl) ?_
          refine le ?_; intro x46
          refine k_ 2 ?_
          refine ln (nmid (wk0 Φ Ω))
         ·
          refine k_ 5 ?_
          refine rret (is := []) () (Or.inl rfl) (Res.t rfl Res.d) ?_ rfl Ω
          rw [← refRight_eq, refRight, if_neg h16', if_pos h19, if_neg h32']; rfl
    ·
     intro h19
     try simp only [nrmZ] at h19
     refine k_ 9 ?_
     refine orX 5 52 57 rfl (sL [0, 1, 2, 16, 17, 18, 19]) ?_ ?_
     ·
      intro h52
      refine k_ 5 ?_
      refine ln (nmid (wk0 Φ Ω))
     apply exI
     ·
      intro h52
      refine k_ 5 ?_
      refine ln (nmid (wk0 Φ Ω))
     ·
      refine k_ 1 ?_
      refine orX 5 58 63 rfl (sL [0, 1, 2, 16, 17, 18, 19]) ?_ ?_
      ·
       intro h58
       refine k_ 5 ?_
       refine ln (nmid (wk0 Φ Ω))
      apply exI
      ·
       intro h58
       refine k_ 5 ?_
       refine ln (nmid (wk0 Φ Ω))
      ·
       refine k_ 2 ?_
       refine cc rfl ?_ ?_
       ·
        intro h63
        skip
        refine k_ 7 ?_
        refine rret (is := []) () (Or.inl rfl) (Res.t rfl Res.d) ?_ rfl Ω
        rw [← refRight_eq, refRight, if_neg h16', if_neg h19, if_pos h63]; rfl
       ·
        intro h63
        have h63' := Bool.eq_false_iff.1 h63
        refine k_ 10 ?_
        refine cc rfl ?_ ?_
        ·
         intro h66
         try simp only [nrmZ] at h66
         refine k_ 4 ?_
         refine lC [] call41 (c_refNamed _ hp.b) ?_; intro x69
         refine k_ 1 ?_
         refine andX 6 70 76 rfl (sL [0, 1, 2, 16, 17, 18, 19, 63, 64, 65, 66]) ?_ ?_
         ·
          intro h70
          refine k_ 6 ?_
          refine ln (nmid (wk0 Φ Ω))
         apply exI
         ·
          intro h70
          refine k_ 6 ?_
          refine ln (nmid (wk0 Φ Ω))
         ·
          refine k_ 5 ?_
          refine rret (is := []) () (Or.inl rfl) (Res.t rfl Res.d) ?_ rfl Ω
          rw [← refRight_eq, refRight, if_neg h16', if_neg h19, if_neg h63', if_pos h66]; rfl
        ·
         intro h66
         try simp only [nrmZ] at h66
         refine k_ 12 ?_
         refine rret (is := []) () (Or.inl rfl) (Res.t rfl Res.d) ?_ rfl Ω
         rw [← refRight_eq, refRight, if_neg h16', if_neg h19, if_neg h63', if_neg h66]; rfl
end Go.Proofs.YtmikcpaaomamiaaGreatDoor.X
end
section
set_option linter.unusedVariables false
set_option linter.unusedSimpArgs false
namespace Go.Proofs.YtmikcpaaomamiaaGreatDoor.X
open Go Go.RowKit Go.Proofs Go.Sx
open Tryz
attribute [local irreducible] slA isA box row TrL TrC TrN TrA Pu OpR
set_option maxHeartbeats 8000000
set_option maxRecDepth 100000 in
theorem c_refSame (p q : Prim) (yp yq : Rp.Lay Prim) (hp : p.fit) : Con Tryz.prog 40 [sv p yp, sv q yq] [] (Rp.asn p yp ++ Rp.asn q yq) Unit (fun _ => .bool (decide (p = q))) (fun _ => []) (fun _ => []) := by
 refine con func40 rfl ntmps40 rfl ?_
 intro M0 F0 w0
 refine k_ 2 ?_
 refine ls (o_box rfl rfl rfl) ?_
 refine le ?_; intro b2
 refine ls (o_box rfl rfl rfl) ?_
 refine le ?_; intro b3
 refine k_ 11 ?_
 refine andX 6 10 16 rfl (sL [0, 1, 2, 3, 4]) ?_ ?_
 ·
  intro h10
  refine k_ 6 ?_
  refine ln (nmid (wk0 Φ Ω))
 apply exI
 ·
  intro h10
  refine k_ 6 ?_
  refine ln (nmid (wk0 Φ Ω))
 ·
  refine k_ 1 ?_
  refine andX 6 17 23 rfl (sL [0, 1, 2, 3, 4]) ?_ ?_
  ·
   intro h17
   refine k_ 6 ?_
   refine ln (nmid (wk0 Φ Ω))
  apply exI
  ·
   intro h17
   refine k_ 6 ?_
   refine ln (nmid (wk0 Φ Ω))
  ·
   refine k_ 1 ?_
   refine andX 6 24 30 rfl (sL [0, 1, 2, 3, 4]) ?_ ?_
   ·
    intro h24
    refine k_ 6 ?_
    refine ln (nmid (wk0 Φ Ω))
   apply exI
   ·
    intro h24
    refine k_ 6 ?_
    refine ln (nmid (wk0 Φ Ω))
   ·
    refine k_ 1 ?_
    refine andX 6 31 37 rfl (sL [0, 1, 2, 3, 4]) ?_ ?_
    ·
     intro h31
     refine k_ 6 ?_
     refine ln (nmid (wk0 Φ Ω))
    apply exI
    ·
     intro h31
     refine k_ 4 ?_
     refine lwant rfl rfl rfl rfl (o_call (is := []) call43 (c_refSame1 p.old q.old _ _ _ _ hp.o) rfl rfl Ω rfl) ?_
     refine le ?_; intro x36
     refine k_ 1 ?_
     refine ln (nmid (wk0 Φ Ω))
    ·
     refine k_ 1 ?_
     refine andX 6 38 44 rfl (sL [0, 1, 4]) ?_ ?_
     ·
      intro h38
      refine k_ 6 ?_
      refine ln (nmid (wk0 Φ Ω))
     apply exI
     ·
      intro h38
      refine k_ 4 ?_
      refine lwant rfl rfl rfl rfl (o_call (is := []) call43 (c_refSame1 p.new q.new _ _ _ _ hp.n) rfl rfl Ω rfl) ?_
      refine le ?_; intro x43
      refine k_ 1 ?_
      refine ln (nmid (wk0 Φ Ω))
     ·
      refine k_ 5 ?_
      refine rret (is := []) () (Or.inl rfl) (Res.t rfl Res.d) ?_ rfl Ω
      simp only [packV, dec_prim]
end Go.Proofs.YtmikcpaaomamiaaGreatDoor.X
end
section
set_option linter.unusedVariables false
set_option linter.unusedSimpArgs false
namespace Go.Proofs.YtmikcpaaomamiaaGreatDoor.X
open Go Go.RowKit Go.Proofs Go.Sx
open Tryz
attribute [local irreducible] slA isA box row TrL TrC TrN TrA Pu OpR
set_option maxHeartbeats 8000000
def pre (l : List Prim) (k : Nat) : Nat := ((l.take k).map Prim.many).sum
theorem pre_succ {l : List Prim} {k : Nat} (h : k < l.length) : pre l (k + 1) = pre l k + l[k].many := by
 unfold pre
 rw [List.take_succ_eq_append_getElem h, List.map_append, List.sum_append]
 simp only [List.map_cons, List.map_nil, List.sum_cons, List.sum_nil, Nat.add_zero]
theorem pre_all (l : List Prim) : l.length + pre l l.length = many l := by
 unfold pre many
 rw [List.take_length]
theorem sum_take (l : List Nat) (k : Nat) : (l.take k).sum ≤ l.sum := by
 have h := congrArg List.sum (List.take_append_drop k l)
 rw [List.sum_append] at h
 omega
theorem pre_le (l : List Prim) (k : Nat) : l.length + pre l k ≤ many l := by
 unfold pre many
 have := sum_take (l.map Prim.many) k
 rw [← List.map_take] at this
 omega
theorem sizes_succ {l : List ByteArray} {k : Nat} (h : k < l.length) : sizes (l.take (k + 1)) = sizes (l.take k) + l[k].size := by
 unfold sizes
 rw [List.take_succ_eq_append_getElem h, List.map_append, List.sum_append]
 simp only [List.map_cons, List.map_nil, List.sum_cons, List.sum_nil, Nat.add_zero]
theorem sizes_le (l : List ByteArray) (k : Nat) : sizes (l.take k) ≤ sizes l := by
 unfold sizes
 have := sum_take (l.map ByteArray.size) k
 rw [← List.map_take] at this
 exact this
set_option maxRecDepth 100000 in
theorem c_Many (l : List Prim) (A : Option Addr) (c : Nat) (hl : l.length ≤ 2000000) (hM : many l ≤ 1000000000000) : Con Tryz.prog 26 [.slice A l.length c] [] [slA A l] Unit (fun _ => .int .i64 (many l : Int)) (fun _ => []) (fun _ => []) := by
 refine con func26 rfl ntmps26 rfl ?_
 intro M0 F0 w0
 refine k_ 21 ?_
 refine cl (ι := {q : Nat × Int // q.1 ≤ l.length ∧ q.2 = ((l.length + pre l q.1 : Nat) : Int)}) (fun i => St M0 F0 w0 61 [(12, .slice A l.length c), (13, .int .i64 (l.length : Int)), (14, .int .i64 (i.1.1 : Int)), (3, .int .i64 i.1.2)] [] [slA A l]) (fun i => l.length - i.1.1) ⟨(0, (l.length : Int)), by simp [pre]⟩ (wk0 Φ Ω) ?_
 rintro ⟨⟨k, n⟩, hk, hn⟩
 refine cmono (S' := St M0 F0 w0 61 [(12, .slice A l.length c), (13, .int .i64 (l.length : Int)), (14, .int .i64 (k : Int)), (3, .int .i64 n)] [] [slA A l]) Ħ ?_
 refine k_ 6 ?_
 refine cc rfl ?_ ?_
 ·
  intro h15
  dsimp only at hk hn
  try simp only [nrmZ] at h15
  have hk1 : k < l.length := by omega
  have hs := pre_succ hk1
  have ht := pre_le l (k + 1)
  have hu : l[k].many = l[k].name.size + l[k].to.size + l[k].old.length + l[k].new.length + sizes l[k].old + sizes l[k].new := rfl
  refine k_ 5 ?_
  refine elC Θ k (List.getElem?_eq_getElem (l := l) hk1) ?_; rintro zbp zop zyp hAp
  refine cr ?_
  refine ls (op (p_ia k hAp hk1 rfl underlying23 sizeOf61 rfl rfl) rfl) ?_
  refine ls (o_ldj isAgg61 sizeOf61 rfl Θ 0 rfl Δ rfl) ?_
  refine ls (o_alloc zeroValue61 rfl rfl) ?_
  refine le ?_; intro b5
  refine k_ 35 ?_
  refine cl (ι := {q : Nat × Int // q.1 ≤ l[k].old.length ∧ q.2 = (n + ((((l[k].name.size : Int) + l[k].to.size) + l[k].old.length) + l[k].new.length)) + sizes (l[k].old.take q.1)}) (fun i => St M0 F0 w0 61 [(12, .slice A l.length c), (13, .int .i64 (l.length : Int)), (14, .int .i64 (k : Int)), (5, .pointer (some ⟨b5, 0, none⟩)), (36, .slice zyp.1.1 l[k].old.length zyp.1.2), (37, .int .i64 (l[k].old.length : Int)), (38, .int .i64 (i.1.1 : Int)), (3, .int .i64 i.1.2)] [box b5 61 (Rp.enc l[k] zyp)] [slA A l, slA zyp.1.1 l[k].old, slA zyp.2.1 l[k].new]) (fun i => l[k].old.length - i.1.1) ⟨(0, (n + ((((l[k].name.size : Int) + l[k].to.size) + l[k].old.length) + l[k].new.length))), by simp [sizes]⟩ (wk0 Φ Ω) ?_
  rintro ⟨⟨j, x⟩, hj, hx⟩
  refine cmono (S' := St M0 F0 w0 61 [(12, .slice A l.length c), (13, .int .i64 (l.length : Int)), (14, .int .i64 (k : Int)), (5, .pointer (some ⟨b5, 0, none⟩)), (36, .slice zyp.1.1 l[k].old.length zyp.1.2), (37, .int .i64 (l[k].old.length : Int)), (38, .int .i64 (j : Int)), (3, .int .i64 x)] [box b5 61 (Rp.enc l[k] zyp)] [slA A l, slA zyp.1.1 l[k].old, slA zyp.2.1 l[k].new]) Ħ ?_
  refine k_ 6 ?_
  refine cc rfl ?_ ?_
  ·
   intro h39
   dsimp only at hj hx
   try simp only [nrmZ] at h39
   have hj1 : j < l[k].old.length := by omega
   have ej1 := sizes_succ hj1
   have ej2 := sizes_le l[k].old (j + 1)
   refine k_ 5 ?_
   refine elC Θ j (List.getElem?_eq_getElem (l := l[k].old) hj1) ?_; rintro zbq zoq zyq hAq
   refine cr ?_
   refine ls (op (p_ia j hAq hj1 rfl underlying37 sizeOf9 rfl rfl) rfl) ?_
   refine ls (o_ldi isAgg9 rfl Θ 0 rfl Δ rfl) ?_
   refine k_ 16 ?_
   refine nnext ⟨(j + 1, x + (l[k].old[j].size : Int)), hj1, by dsimp only; omega⟩ (by dsimp only; omega) (wk0 Φ Ω)
  ·
   intro h39
   dsimp only at hj hx
   try simp only [nrmZ] at h39
   rw [List.take_of_length_le (by omega)] at hx
   refine k_ 14 ?_
   refine cl (ι := {q : Nat × Int // q.1 ≤ l[k].new.length ∧ q.2 = x + sizes (l[k].new.take q.1)}) (fun i => St M0 F0 w0 61 [(12, .slice A l.length c), (13, .int .i64 (l.length : Int)), (14, .int .i64 (k : Int)), (5, .pointer (some ⟨b5, 0, none⟩)), (48, .slice zyp.2.1 l[k].new.length zyp.2.2), (49, .int .i64 (l[k].new.length : Int)), (50, .int .i64 (i.1.1 : Int)), (3, .int .i64 i.1.2)] [box b5 61 (Rp.enc l[k] zyp)] [slA A l, slA zyp.1.1 l[k].old, slA zyp.2.1 l[k].new]) (fun i => l[k].new.length - i.1.1) ⟨(0, x), by simp [sizes]⟩ (wk0 Φ Ω) ?_
   rintro ⟨⟨g, y⟩, hg, hy⟩
   refine cmono (S' := St M0 F0 w0 61 [(12, .slice A l.length c), (13, .int .i64 (l.length : Int)), (14, .int .i64 (k : Int)), (5, .pointer (some ⟨b5, 0, none⟩)), (48, .slice zyp.2.1 l[k].new.length zyp.2.2), (49, .int .i64 (l[k].new.length : Int)), (50, .int .i64 (g : Int)), (3, .int .i64 y)] [box b5 61 (Rp.enc l[k] zyp)] [slA A l, slA zyp.1.1 l[k].old, slA zyp.2.1 l[k].new]) Ħ ?_
   refine k_ 6 ?_
   refine cc rfl ?_ ?_
   ·
    intro h51
    dsimp only at hg hy
    try simp only [nrmZ] at h51
    have hg1 : g < l[k].new.length := by omega
    have eg1 := sizes_succ hg1
    have eg2 := sizes_le l[k].new (g + 1)
    refine k_ 5 ?_
    refine elC Θ g (List.getElem?_eq_getElem (l := l[k].new) hg1) ?_; rintro zbr zor zyr hAr
    refine cr ?_
    refine ls (op (p_ia g hAr hg1 rfl underlying37 sizeOf9 rfl rfl) rfl) ?_
    refine ls (o_ldi isAgg9 rfl Θ 0 rfl Δ rfl) ?_
    refine k_ 16 ?_
    refine nnext ⟨(g + 1, y + (l[k].new[g].size : Int)), hg1, by dsimp only; omega⟩ (by dsimp only; omega) (wk0 Φ Ω)
   ·
    intro h51
    dsimp only at hg hy
    try simp only [nrmZ] at h51
    rw [List.take_of_length_le (by omega)] at hy
    refine k_ 10 ?_
    refine nnext ⟨(k + 1, y), hk1, by dsimp only; omega⟩ (by dsimp only; omega) (wK [])
 ·
  intro h15
  dsimp only at hk hn
  try simp only [nrmZ] at h15
  refine k_ 13 ?_
  refine rret (is := []) () (Or.inl rfl) (Res.t rfl Res.d) ?_ rfl Ω
  have e := pre_all l; rw [show k = l.length by omega] at hn; rw [hn]; simp only [packV]; rw [e]
end Go.Proofs.YtmikcpaaomamiaaGreatDoor.X
end
section
set_option linter.unusedVariables false
set_option linter.unusedSimpArgs false
namespace Go.Proofs.YtmikcpaaomamiaaGreatDoor.X
open Go Go.RowKit Go.Proofs Go.Sx
open Tryz
attribute [local irreducible] slA isA box row TrL TrC TrN TrA Pu OpR
set_option maxHeartbeats 8000000
def Tfit (T : List File) : Prop := ∀ x ∈ T, x.2.length ≤ 2000000
theorem Tfit.get {T : List File} (h : Tfit T) (k : ByteArray) : (getL T k).length ≤ 2000000 := by
 unfold getL getT
 cases e : T.find? (fun x => decide (x.1 = k)) with
 | none => simp
 | some x => simpa using h x (List.mem_of_find?_eq_some e)
set_option maxRecDepth 100000 in
theorem c_sCloneR (l : List ByteArray) (A : Option Addr) (c : Nat) (hl : l.length ≤ 2000000) : Con Tryz.prog 52 [.slice A l.length c] [] [slA A l] (Option Addr × Nat) (fun y => .slice y.1 l.length y.2) (fun y => [row 9 y.1 y.2 l]) (fun _ => []) := by
 refine con func52 rfl ntmps52 rfl ?_
 intro M0 F0 w0
 refine k_ 9 ?_
 refine ls (op (p_slnil underlying37 rfl rfl) rfl) ?_
 refine k_ 2 ?_
 refine cc rfl ?_ ?_
 ·
  intro h4
  have h5 : A = none := by simpa using h4
  refine cs ?_
  subst h5
  refine cmono (fun a w h => nil_len (l := l) (i := 0) At.z h) ?_
  refine cf ?_; rintro rfl
  refine cmono (fun a w h => nilRow (α := ByteArray) 9 h) ?_
  refine k_ 6 ?_
  exact rR [0] (none, 0)
 ·
  intro h4
  have h5 : ¬ A = none := by intro e; rw [e] at h4; cases h4
  refine k_ 4 ?_
  refine ls (o_bsl ([] : List ByteArray) underlying37 sizeOf9 zeroValue9 rfl Enum.d RV.d rfl (by decide) (by decide) rfl) ?_
  refine le ?_; intro b5
  refine k_ 1 ?_
  refine ls (o_app (is := [0]) underlying37 inf9 rfl (by decide) (by decide) rfl rfl (by simp; omega) (fun _ h => absurd h h5) rfl Ω rfl) ?_
  refine le ?_; rintro ⟨A', c2⟩
  rw [List.nil_append]
  refine k_ 5 ?_
  exact rR [0] (A', c2)
end Go.Proofs.YtmikcpaaomamiaaGreatDoor.X
end
section
set_option linter.unusedVariables false
set_option linter.unusedSimpArgs false
namespace Go.Proofs.YtmikcpaaomamiaaGreatDoor.X
open Go Go.RowKit Go.Proofs Go.Sx
attribute [local irreducible] slA isA box row TrL TrC TrN TrA Pu OpR
set_option maxHeartbeats 8000000
end Go.Proofs.YtmikcpaaomamiaaGreatDoor.X
end
section
set_option linter.unusedVariables false
set_option linter.unusedSimpArgs false
namespace Go.Proofs.YtmikcpaaomamiaaGreatDoor.X
open Go Go.RowKit Go.Proofs Go.Sx
attribute [local irreducible] slA isA box row TrL TrC TrN TrA Pu OpR
set_option maxHeartbeats 8000000
end Go.Proofs.YtmikcpaaomamiaaGreatDoor.X
end
section
set_option linter.unusedVariables false
set_option linter.unusedSimpArgs false
namespace Go.Proofs.YtmikcpaaomamiaaGreatDoor.X
open Go Go.RowKit Go.Proofs Go.Sx
attribute [local irreducible] slA isA box row TrL TrC TrN TrA Pu OpR
set_option maxHeartbeats 8000000
end Go.Proofs.YtmikcpaaomamiaaGreatDoor.X
end
section
set_option linter.unusedVariables false
set_option linter.unusedSimpArgs false
namespace Go.Sx
open Go Go.RowKit
/-! Texts that are built of pieces. -/
instance instRpByte : Rp UInt8 where
  Lay := Unit
  size := 1
  enc x _ := [.int .u8 (x.toNat : Int)]
  len _ _ := rfl
  one _ _ v hv := by
    simp only [List.mem_cons, List.mem_nil_iff, or_false] at hv
    subst hv; rfl
  asn _ _ := []
section
variable {ro : Option Nat} {P : Program} {M0 F0 : Nat → Prop} {w0 : World} {n : Nm} {σ : List (Nat × Value)} {Ξ : List Xsn} {Γ : List Asn} {d : Nat} {ty : TypeId} {pos : String} {af : Array Edge}
variable {ops : Array Oper} {Q : Exit → Act → World → Prop} {S S' : Act → World → Prop}
theorem p_cat {T : World → Prop} {x y : Operand} {t t' : TypeId} {s u : ByteArray} (hx : ev σ x = some (.string s)) (hy : ev σ y = some (.string u)) (hb : s.size + u.size ≤ 9223372036854775807) : Pu P n σ T ⟨some d, .binOp .add t x y t', ty, pos, af, none⟩ (.string (s ++ u)) :=
  fun a hs w _ => by
    have h1 : ¬ ((s.size + u.size : Nat) : Int) > IntKind.i64.max := by
      have : IntKind.i64.max = 9223372036854775807 := rfl
      omega
    simp only [execOp, hs.ev hx, hs.ev hy, eqGuard_add, binOp, Op.stringOp, Sem.run_bind, Sem.run_pure, Result.andThen_ok]
    rw [if_neg h1]
    rfl
end
end Go.Sx
end
section
set_option linter.unusedVariables false
set_option linter.unusedSimpArgs false
namespace Go.Sx
open Go Go.RowKit
section
variable {ro : Option Nat} {P : Program} {M0 F0 : Nat → Prop} {w0 : World} {n : Nm} {σ : List (Nat × Value)} {Ξ : List Xsn} {Γ : List Asn} {d : Nat} {ty : TypeId} {pos : String} {af : Array Edge}
variable {ops : Array Oper} {Q : Exit → Act → World → Prop} {S S' : Act → World → Prop}
end
end Go.Sx
end
section
set_option linter.unusedVariables false
set_option linter.unusedSimpArgs false
namespace Go.Proofs.YtmikcpaaomamiaaGreatDoor.X
open Go Go.RowKit Go.Proofs Go.Sx
attribute [local irreducible] slA isA box row TrL TrC TrN TrA Pu OpR
set_option maxHeartbeats 8000000
end Go.Proofs.YtmikcpaaomamiaaGreatDoor.X
end
section
set_option linter.unusedVariables false
set_option linter.unusedSimpArgs false
namespace Go.Proofs.YtmikcpaaomamiaaGreatDoor.X
open Go Go.RowKit Go.Proofs Go.Sx
attribute [local irreducible] slA isA box row TrL TrC TrN TrA Pu OpR
set_option maxHeartbeats 8000000
end Go.Proofs.YtmikcpaaomamiaaGreatDoor.X
end
section
set_option linter.unusedVariables false
set_option linter.unusedSimpArgs false
namespace Go.Sx
open Go Go.RowKit
/-! Laws on trees, as they stand in memory and in the document. -/
theorem getT_put {T : List File} (h : Sor T) (k k' : ByteArray) (l : List ByteArray) : getT (putT T k l) k' = if k' = k then some l else getT T k' := by
  apply Option.ext
  intro v
  rw [getT_some (h.put k l), mem_putT]
  by_cases e : k' = k
  · subst e
    rw [if_pos rfl]
    constructor
    · rintro (h1 | ⟨_, h2⟩)
      · injection h1 with _ h1; rw [h1]
      · exact absurd rfl h2
    · intro h1; injection h1 with h1; subst h1; exact .inl rfl
  · rw [if_neg e, getT_some h]
    constructor
    · rintro (h1 | ⟨h1, _⟩)
      · injection h1 with h1 _; exact absurd h1 e
      · exact h1
    · exact fun h1 => .inr ⟨h1, e⟩
theorem getT_del {T : List File} (h : Sor T) (k k' : ByteArray) : getT (delT T k) k' = if k' = k then none else getT T k' := by
  apply Option.ext
  intro v
  rw [getT_some (h.del k), mem_delT]
  by_cases e : k' = k
  · subst e
    rw [if_pos rfl]
    constructor
    · rintro ⟨_, h2⟩; exact absurd rfl h2
    · intro h1; cases h1
  · rw [if_neg e, getT_some h]
    exact ⟨fun h1 => h1.1, fun h1 => ⟨h1, e⟩⟩
theorem getT_ext {T U : List File} (hT : Sor T) (hU : Sor U) (h : ∀ k, getT T k = getT U k) : T = U :=
  sor_ext hT hU fun x => by
    have := h x.1
    rw [← getT_some (k := x.1) (l := x.2) hT, ← getT_some (k := x.1) (l := x.2) hU, this]
theorem hasT_no {T : List File} {k : ByteArray} (h : hasT T k = false) : getT T k = none := by
  unfold hasT at h
  cases e : getT T k with
  | none => rfl
  | some v => rw [e] at h; cases h
theorem hasT_yes {T : List File} {k : ByteArray} (h : hasT T k = true) : getT T k = some (getL T k) := by
  unfold hasT at h
  unfold getL
  cases e : getT T k with
  | none => rw [e] at h; cases h
  | some v => rfl
theorem tRem_add {M : List File} {k : ByteArray} (hM : Sor M) (hh : hasT M k = false) : tRem (putT M k []) k = (M, 0) := by
  have h1 : getT (putT M k []) k = some [] := by rw [getT_put hM, if_pos rfl]
  have h2 : delT (putT M k []) k = M := getT_ext ((hM.put _ _).del _) hM fun u => by
    rw [getT_del (hM.put _ _), getT_put hM]
    by_cases e : u = k
    · subst e; rw [if_pos rfl, hasT_no hh]
    · rw [if_neg e, if_neg e]
  unfold tRem
  rw [if_neg (by simp [hasT, h1]), if_neg (by simp [getL, h1]), h2]
theorem moved_get {M : List File} {a b : ByteArray} (hM : Sor M) (ha : hasT M a = true) (hb : hasT M b = false) (u : ByteArray) : getT (delT (putT M b (getL M a)) a) u = if u = a then none else if u = b then some (getL M a) else getT M u := by
  rw [getT_del (hM.put _ _), getT_put hM]
theorem moved_ne {M : List File} {a b : ByteArray} (ha : hasT M a = true) (hb : hasT M b = false) : ¬ b = a := fun e => by
  subst e; rw [ha] at hb; cases hb
theorem move_back {M : List File} {a b : ByteArray} (hM : Sor M) (hn : nameOk a = true) (ha : hasT M a = true) (hb : hasT M b = false) : tMove (delT (putT M b (getL M a)) a) b a = (M, 0) := by
  have hS : Sor (delT (putT M b (getL M a)) a) := (hM.put _ _).del _
  have hne := moved_ne ha hb
  have h1 : getT (delT (putT M b (getL M a)) a) b = some (getL M a) := by rw [moved_get hM ha hb, if_neg hne, if_pos rfl]
  have h2 : getT (delT (putT M b (getL M a)) a) a = none := by rw [moved_get hM ha hb, if_pos rfl]
  have h3 : getL (delT (putT M b (getL M a)) a) b = getL M a := by rw [getL, h1]; rfl
  unfold tMove
  rw [if_neg (by simp [hasT, h1, hn]), if_neg (by simp [hasT, h2]), h3]
  have : delT (putT (delT (putT M b (getL M a)) a) a (getL M a)) b = M := getT_ext ((hS.put _ _).del _) hM fun u => by
    rw [getT_del (hS.put _ _), getT_put hS, moved_get hM ha hb]
    by_cases e : u = b
    · subst e; rw [if_pos rfl, hasT_no hb]
    · rw [if_neg e]
      by_cases e2 : u = a
      · subst e2; rw [if_pos rfl, hasT_yes ha]
      · rw [if_neg e2, if_neg e2, if_neg e]
  rw [this]
def Good (T : List File) : Prop := ∀ x ∈ T, nameOk x.1 = true ∧ x.2.all lineOk = true
theorem Good.get {T : List File} (h : Good T) (k : ByteArray) : (getL T k).all lineOk = true := by
  unfold getL getT
  cases e : T.find? (fun x => decide (x.1 = k)) with
  | none => rfl
  | some x => simpa using (h x (List.mem_of_find?_eq_some e)).2
theorem Good.name {T : List File} (h : Good T) {k : ByteArray} (hk : hasT T k = true) : nameOk k = true := by
  obtain ⟨x, hx, rfl⟩ := hasT_iff.1 hk
  exact (h x hx).1
theorem Good.put {T : List File} (h : Good T) {k : ByteArray} {l : List ByteArray} (hk : nameOk k = true) (hl : l.all lineOk = true) : Good (putT T k l) := fun x hx => by
  rcases mem_putT.1 hx with rfl | ⟨h1, _⟩
  · exact ⟨hk, hl⟩
  · exact h x h1
theorem Good.del {T : List File} (h : Good T) (k : ByteArray) : Good (delT T k) := fun x hx => h x (mem_delT.1 hx).1
theorem doT_good {T : List File} (h : Good T) (o : TOp) : Good (doT T o).1 := by
  unfold doT
  split
  · unfold tAdd; split
    · exact h
    · rename_i h1; split
      · exact h
      · exact h.put (by simpa using h1) rfl
  · split
    · unfold tRem; split; exact h; split; exact h; exact h.del _
    · split
      · unfold rMove; split
        · exact h
        · rename_i h1; split
          · exact h
          · exact (h.del _).put (by
              cases e : nameOk o.to with
              | true => rfl
              | false => exact absurd (.inr e) h1) (h.get _)
      · split
        · unfold tPut; split
          · exact h
          · rename_i h1; split
            · exact h
            · rename_i h2
              exact h.put (h.name (by simpa using h1)) (by simpa using h2)
        · exact h
theorem madeT_good (l : List TOp) : Good (madeT l) := by
  unfold madeT
  have : ∀ (l : List TOp) (T : List File), Good T → Good (l.foldl (fun T o => (doT T o).1) T) := by
    intro l
    induction l with
    | nil => exact fun T h => h
    | cons o l ih => exact fun T h => ih _ (doT_good h o)
  exact this l [] fun x hx => by cases hx
end Go.Sx
end
section
set_option linter.unusedVariables false
set_option linter.unusedSimpArgs false
namespace Go.Proofs.YtmikcpaaomamiaaGreatDoor.X
open Go Go.RowKit Go.Proofs Go.Sx
attribute [local irreducible] slA isA box row TrL TrC TrN TrA Pu OpR
set_option maxHeartbeats 8000000
end Go.Proofs.YtmikcpaaomamiaaGreatDoor.X
end
section
set_option linter.unusedVariables false
set_option linter.unusedSimpArgs false
namespace Go.Sx
open Go Go.RowKit
section
variable {ro : Option Nat} {P : Program} {M0 F0 : Nat → Prop} {w0 : World} {n : Nm} {σ : List (Nat × Value)} {Ξ : List Xsn} {Γ : List Asn} {d : Nat} {ty : TypeId} {pos : String} {af : Array Edge}
variable {ops : Array Oper} {Q : Exit → Act → World → Prop} {S S' : Act → World → Prop}
end
/-! Prims and trees. -/
def standsB (l : List ByteArray) (z : Int) (part : List ByteArray) : Bool := decide (0 ≤ z) && decide (z ≤ (l.length : Int)) && decide ((part.length : Int) ≤ (l.length : Int) - z) && decide ((l.drop z.toNat).take part.length = part)
def splT (l : List ByteArray) (z : Int) (old new : List ByteArray) : List ByteArray := if standsB l z old = true then l.take z.toNat ++ new ++ l.drop (z.toNat + old.length) else []
def fitT (q : List File × Int) : List File × Int := (q.1, if q.2 = 0 then 0 else 31)
def hunkT (T : List File) (p : Prim) : List File × Int :=
  if hasT T p.name = false ∨ standsB (getL T p.name) p.pos p.old = false then (T, 31) else fitT (tPut T p.name (splT (getL T p.name) p.pos p.old p.new))
def applyT (T : List File) (p : Prim) : List File × Int :=
  if p.right = false then (T, 30) else if p.kind = 0 then hunkT T p else if p.kind = 3 then fitT (tMove T p.name p.to) else if p.kind = 1 then fitT (tAdd T p.name) else fitT (tRem T p.name)
def rApplyT (T : List File) (p : Prim) : List File × Int :=
  if p.right = false then (T, 30)
  else if p.kind = 0 then (if hasT T p.name = true ∧ standsB (getL T p.name) p.pos p.old = true then (putT T p.name (splT (getL T p.name) p.pos p.old p.new), 0) else (T, 31))
  else if p.kind = 1 then (if hasT T p.name = false then (putT T p.name [], 0) else (T, 31))
  else if p.kind = 2 then (if hasT T p.name = true ∧ (getL T p.name).length = 0 then (delT T p.name, 0) else (T, 31))
  else if p.kind = 3 then (if hasT T p.name = true ∧ hasT T p.to = false then (putT (delT T p.name) p.to (getL T p.name), 0) else (T, 31))
  else (T, 31)
theorem standsB_nat {l part : List ByteArray} {k : Nat} (h : k + part.length ≤ l.length) : standsB l (k : Int) part = decide ((l.drop k).take part.length = part) := by
  unfold standsB
  rw [decide_eq_true (by omega), decide_eq_true (by omega), decide_eq_true (by omega)]
  simp
theorem standsB_yes {l part : List ByteArray} {z : Int} (h : standsB l z part = true) : ∃ k : Nat, z = (k : Int) ∧ k + part.length ≤ l.length ∧ (l.drop k).take part.length = part := by
  unfold standsB at h
  simp only [Bool.and_eq_true, decide_eq_true_eq] at h
  obtain ⟨⟨⟨h1, h2⟩, h3⟩, h4⟩ := h
  exact ⟨z.toNat, by omega, by omega, h4⟩
theorem splT_len {l old new : List ByteArray} {z : Int} : (splT l z old new).length ≤ l.length + new.length := by
  unfold splT
  split
  · rename_i h
    obtain ⟨k, rfl, h1, _⟩ := standsB_yes h
    simp only [List.length_append, List.length_take, List.length_drop, Int.toNat_natCast]
    omega
  · simp
theorem right_kind {p : Prim} (h : p.right = true) : p.kind = 0 ∨ p.kind = 1 ∨ p.kind = 2 ∨ p.kind = 3 := by
  unfold Prim.right at h
  rw [Bool.and_eq_true] at h
  have h2 := h.2
  by_cases h0 : p.kind = 0
  · exact .inl h0
  · rw [if_neg h0] at h2
    by_cases h3 : p.kind = 3
    · exact .inr (.inr (.inr h3))
    · rw [if_neg h3] at h2
      simp only [Bool.and_eq_true, Bool.or_eq_true, decide_eq_true_eq] at h2
      rcases h2.2 with h | h
      · exact .inr (.inl h)
      · exact .inr (.inr (.inl h))
theorem right_name {p : Prim} (h : p.right = true) : nameOk p.name = true := by
  unfold Prim.right at h
  rw [Bool.and_eq_true] at h
  exact h.1
theorem right_new {p : Prim} (h : p.right = true) (h0 : p.kind = 0) : p.new.all lineOk = true := by
  unfold Prim.right at h
  rw [Bool.and_eq_true, if_pos h0] at h
  simp only [Bool.and_eq_true] at h
  exact h.2.1.2
theorem right_to {p : Prim} (h : p.right = true) (h0 : p.kind = 3) : nameOk p.to = true := by
  unfold Prim.right at h
  rw [Bool.and_eq_true, if_neg (by omega), if_pos h0] at h
  simp only [Bool.and_eq_true] at h
  exact h.2.1.2
theorem splT_ok {l old new : List ByteArray} {z : Int} (hl : l.all lineOk = true) (hn : new.all lineOk = true) : (splT l z old new).all lineOk = true := by
  unfold splT
  split
  · rw [List.all_eq_true] at hl hn ⊢
    intro x hx
    rcases List.mem_append.1 hx with hx | hx
    · rcases List.mem_append.1 hx with hx | hx
      · exact hl x (List.mem_of_mem_take hx)
      · exact hn x hx
    · exact hl x (List.mem_of_mem_drop hx)
  · rfl
theorem apply_eq {T : List File} (hS : Sor T) (hG : Good T) (p : Prim) : applyT T p = rApplyT T p := by
  unfold applyT rApplyT
  by_cases hr : p.right = false
  · rw [if_pos hr, if_pos hr]
  · have hr' : p.right = true := by simpa using hr
    rw [if_neg hr, if_neg hr]
    rcases right_kind hr' with h | h | h | h
    · rw [if_pos h, if_pos h]
      unfold hunkT
      by_cases h1 : hasT T p.name = true
      · by_cases h2 : standsB (getL T p.name) p.pos p.old = true
        · rw [if_neg (by simp [h1, h2]), if_pos ⟨h1, h2⟩]
          unfold tPut
          have h4 := splT_ok (z := p.pos) (old := p.old) (hG.get p.name) (right_new hr' h)
          rw [if_neg (by simp [h1]), if_neg (by simp only [h4]; simp)]
          rfl
        · rw [if_pos (.inr (by simpa using h2)), if_neg (by simp [h2])]
      · rw [if_pos (.inl (by simpa using h1)), if_neg (by simp [h1])]
    · rw [if_neg (by omega), if_neg (by omega), if_pos h, if_neg (by omega), if_pos h]
      unfold tAdd
      have hn := right_name hr'
      rw [if_neg (by simp [hn])]
      by_cases h1 : hasT T p.name = true
      · rw [if_pos h1, if_neg (by simp [h1])]; rfl
      · rw [if_neg h1, if_pos (by simpa using h1)]; rfl
    · rw [if_neg (by omega), if_neg (by omega), if_neg (by omega), if_neg (by omega), if_neg (by omega), if_pos h]
      unfold tRem
      by_cases h1 : hasT T p.name = true
      · rw [if_neg (by simp [h1])]
        by_cases h2 : 0 < (getL T p.name).length
        · rw [if_pos h2, if_neg (by omega)]; rfl
        · rw [if_neg h2, if_pos ⟨h1, by omega⟩]; rfl
      · rw [if_pos (by simpa using h1), if_neg (by simp [h1])]; rfl
    · rw [if_neg (by omega), if_pos h, if_neg (by omega), if_neg (by omega), if_neg (by omega), if_pos h, move_eq hS]
      unfold rMove
      have hn := right_to hr' h
      by_cases h1 : hasT T p.name = true
      · rw [if_neg (by simp [h1, hn])]
        by_cases h2 : hasT T p.to = true
        · rw [if_pos h2, if_neg (by simp [h2])]; rfl
        · rw [if_neg h2, if_pos ⟨h1, by simpa using h2⟩]; rfl
      · rw [if_pos (.inl (by simpa using h1)), if_neg (by simp [h1])]; rfl
theorem rApply_sor {T : List File} (hS : Sor T) (p : Prim) : Sor (rApplyT T p).1 := by
  unfold rApplyT
  repeat' split
  all_goals first | exact hS | exact hS.put _ _ | exact hS.del _ | exact (hS.del _).put _ _
theorem rApply_good {T : List File} (hG : Good T) (p : Prim) : Good (rApplyT T p).1 := by
  unfold rApplyT
  by_cases hr : p.right = false
  · rw [if_pos hr]; exact hG
  · have hr' : p.right = true := by simpa using hr
    have hn := right_name hr'
    rw [if_neg hr]
    split
    · rename_i h
      split
      · exact hG.put hn (splT_ok (hG.get _) (right_new hr' h))
      · exact hG
    · split
      · split
        · exact hG.put hn rfl
        · exact hG
      · split
        · split
          · exact hG.del _
          · exact hG
        · split
          · rename_i h
            split
            · exact (hG.del _).put (right_to hr' h) (hG.get _)
            · exact hG
          · exact hG
end Go.Sx
end
section
set_option linter.unusedVariables false
set_option linter.unusedSimpArgs false
namespace Go.Proofs.YtmikcpaaomamiaaGreatDoor.X
open Go Go.RowKit Go.Proofs Go.Sx
open Tryz
attribute [local irreducible] slA isA box row TrL TrC TrN TrA Pu OpR
set_option maxHeartbeats 8000000
end Go.Proofs.YtmikcpaaomamiaaGreatDoor.X
end
section
set_option linter.unusedVariables false
set_option linter.unusedSimpArgs false
namespace Go.Proofs.YtmikcpaaomamiaaGreatDoor.X
open Go Go.RowKit Go.Proofs Go.Sx
attribute [local irreducible] slA isA box row TrL TrC TrN TrA Pu OpR
set_option maxHeartbeats 8000000
end Go.Proofs.YtmikcpaaomamiaaGreatDoor.X
end
section
set_option linter.unusedVariables false
set_option linter.unusedSimpArgs false
namespace Go.Sx
open Go Go.RowKit
def Lmax (m : Nat) (T : List File) : Prop := ∀ x ∈ T, x.2.length ≤ m
theorem Lmax.get {m : Nat} {T : List File} (h : Lmax m T) (u : ByteArray) : (getL T u).length ≤ m := by
  unfold getL getT
  cases e : T.find? (fun x => decide (x.1 = u)) with
  | none => simp
  | some x => simpa using h x (List.mem_of_find?_eq_some e)
theorem Lmax.mono {m m' : Nat} {T : List File} (h : Lmax m T) (hm : m ≤ m') : Lmax m' T := fun x hx => Nat.le_trans (h x hx) hm
theorem Lmax.put {m : Nat} {T : List File} (h : Lmax m T) {k : ByteArray} {l : List ByteArray} (hl : l.length ≤ m) : Lmax m (putT T k l) := fun x hx => by
  rcases mem_putT.1 hx with rfl | ⟨h1, _⟩
  · exact hl
  · exact h x h1
theorem Lmax.del {m : Nat} {T : List File} (h : Lmax m T) (k : ByteArray) : Lmax m (delT T k) := fun x hx => h x (mem_delT.1 hx).1
theorem rApply_lmax {m : Nat} {T : List File} (h : Lmax m T) (p : Prim) : Lmax (m + p.new.length) (rApplyT T p).1 := by
  have h1 := h.mono (Nat.le_add_right m p.new.length)
  unfold rApplyT
  repeat' split
  all_goals first
    | exact h1
    | exact h1.del _
    | exact h1.put (Nat.le_trans splT_len (by have := h.get p.name; omega))
    | exact h1.put (by simp)
    | exact (h1.del _).put (by have := h.get p.name; omega)
theorem rApply_len (T : List File) (p : Prim) : (rApplyT T p).1.length ≤ T.length + 1 := by
  have hd : ∀ k, (delT T k).length ≤ T.length := fun k => List.length_filter_le _ _
  unfold rApplyT
  repeat' split
  all_goals first
    | exact Nat.le_succ _
    | exact putT_len _ _ _
    | exact Nat.le_trans (hd _) (Nat.le_succ _)
    | exact Nat.le_trans (putT_len _ _ _) (Nat.succ_le_succ (hd _))
theorem tAdd_rem {M : List File} {k : ByteArray} (hM : Sor M) (hn : nameOk k = true) (hh : getT M k = some []) : tAdd (delT M k) k = (M, 0) := by
  have h1 : getT (delT M k) k = none := by rw [getT_del hM, if_pos rfl]
  unfold tAdd
  rw [if_neg (by simp [hn]), if_neg (by simp [hasT, h1])]
  have : putT (delT M k) k [] = M := getT_ext ((hM.del _).put _ _) hM fun u => by
    rw [getT_put (hM.del _), getT_del hM]
    by_cases e : u = k
    · subst e; rw [if_pos rfl, hh]
    · rw [if_neg e, if_neg e]
  rw [this]
theorem splT_yes {l old new : List ByteArray} {k : Nat} (h : standsB l (k : Int) old = true) : splT l (k : Int) old new = l.take k ++ new ++ l.drop (k + old.length) := by unfold splT; rw [if_pos h]; rfl
theorem spl_back {l old new : List ByteArray} {z : Int} (h : standsB l z old = true) : standsB (splT l z old new) z new = true ∧ splT (splT l z old new) z new old = l := by
  obtain ⟨k, rfl, h1, h2⟩ := standsB_yes h
  have e1 : splT l (k : Int) old new = l.take k ++ new ++ l.drop (k + old.length) := by unfold splT; rw [if_pos h]; rfl
  have hk : (l.take k).length = k := by rw [List.length_take]; omega
  have hlen : (l.take k ++ new ++ l.drop (k + old.length)).length = k + new.length + (l.length - (k + old.length)) := by rw [List.length_append, List.length_append, hk, List.length_drop]
  have e2 : (l.take k ++ new ++ l.drop (k + old.length)).drop k = new ++ l.drop (k + old.length) := by
    rw [List.append_assoc, List.drop_append, hk, List.drop_of_length_le (by omega), Nat.sub_self]; rfl
  have e3 : (l.take k ++ new ++ l.drop (k + old.length)).take k = l.take k := by
    rw [List.append_assoc, List.take_append, hk, List.take_of_length_le (by omega), Nat.sub_self]; simp
  have e4 : (l.take k ++ new ++ l.drop (k + old.length)).drop (k + new.length) = l.drop (k + old.length) := by
    rw [← List.drop_drop, e2, List.drop_append, List.drop_of_length_le (Nat.le_refl _), Nat.sub_self]; rfl
  have hs : standsB (splT l (k : Int) old new) (k : Int) new = true := by
    rw [e1, standsB_nat (by rw [hlen]; omega), e2]
    simp
  refine ⟨hs, ?_⟩
  have e5 := splT_yes (new := old) hs
  rw [e5, e1, e3, e4]
  have e6 : l = l.take k ++ ((l.drop k).take old.length ++ (l.drop k).drop old.length) := by rw [List.take_append_drop, List.take_append_drop]
  rw [h2, List.drop_drop] at e6
  rw [List.append_assoc]
  exact e6.symm
theorem put_put {T : List File} (h : Sor T) (k : ByteArray) (l m : List ByteArray) : putT (putT T k l) k m = putT T k m :=
  getT_ext ((h.put _ _).put _ _) (h.put _ _) fun u => by
    rw [getT_put (h.put _ _), getT_put h, getT_put h]
    by_cases e : u = k <;> simp [e]
theorem put_same {T : List File} (h : Sor T) {k : ByteArray} {l : List ByteArray} (hk : getT T k = some l) : putT T k l = T :=
  getT_ext (h.put _ _) h fun u => by
    rw [getT_put h]
    by_cases e : u = k
    · subst e; rw [if_pos rfl, hk]
    · rw [if_neg e]
theorem apply_back {T T1 : List File} {p : Prim} (hS : Sor T) (hG : Good T) (h : (T1, (0 : Int)) = applyT T p) : applyT T1 p.flip = (T, 0) := by
  rw [apply_eq hS hG] at h
  have hS1 : Sor T1 := by have := rApply_sor hS p; rw [← h] at this; exact this
  have hG1 : Good T1 := by have := rApply_good hG p; rw [← h] at this; exact this
  rw [apply_eq hS1 hG1]
  unfold rApplyT at h ⊢
  rw [flip_right]
  by_cases hr : p.right = false
  · rw [if_pos hr] at h; injection h with _ h; cases h
  · have hr' : p.right = true := by simpa using hr
    rw [if_neg hr] at h ⊢
    rcases right_kind hr' with k0 | k1 | k2 | k3
    · rw [if_pos k0] at h
      have hk : p.flip.kind = 0 := (flip_kind p).1.2 k0
      rw [if_pos hk]
      split at h
      · rename_i hj
        injection h with h _
        obtain ⟨hb1, hb2⟩ := spl_back (new := p.new) hj.2
        have hf := flip0 k0
        have hg : getT T1 p.name = some (splT (getL T p.name) p.pos p.old p.new) := by rw [h, getT_put hS, if_pos rfl]
        have hn : p.flip.name = p.name ∧ p.flip.pos = p.pos ∧ p.flip.old = p.new ∧ p.flip.new = p.old := by rw [hf]; exact ⟨rfl, rfl, rfl, rfl⟩
        rw [hn.1, hn.2.1, hn.2.2.1, hn.2.2.2, show getL T1 p.name = splT (getL T p.name) p.pos p.old p.new by rw [getL, hg]; rfl, if_pos ⟨by rw [hasT, hg]; rfl, hb1⟩, hb2, h, put_put hS, put_same hS (hasT_yes hj.1)]
      · injection h with _ h; cases h
    · rw [if_neg (by omega), if_pos k1] at h
      have hf : p.flip = { p with kind := 2 } := by rw [Prim.flip, if_neg (by omega), if_pos (.inl k1), k1]; rfl
      rw [hf]
      split at h
      · rename_i hj
        injection h with h _
        have hg : getT T1 p.name = some [] := by rw [h, getT_put hS, if_pos rfl]
        rw [if_neg (show ¬ (2 : Int) = 0 by decide), if_neg (show ¬ (2 : Int) = 1 by decide), if_pos rfl, if_pos ⟨by rw [hasT, hg]; rfl, by rw [getL, hg]; rfl⟩]
        have := tRem_add hS hj
        unfold tRem at this
        rw [← h, if_neg (by rw [hasT, hg]; simp), if_neg (by rw [getL, hg]; simp)] at this
        exact this
      · injection h with _ h; cases h
    · rw [if_neg (by omega), if_neg (by omega), if_pos k2] at h
      have hf : p.flip = { p with kind := 1 } := by rw [Prim.flip, if_neg (by omega), if_pos (.inr k2), k2]; rfl
      rw [hf]
      split at h
      · rename_i hj
        injection h with h _
        have h0 : getT T p.name = some [] := by rw [hasT_yes hj.1, List.eq_nil_of_length_eq_zero hj.2]
        have hg : getT T1 p.name = none := by rw [h, getT_del hS, if_pos rfl]
        rw [if_neg (show ¬ (1 : Int) = 0 by decide), if_pos rfl, if_pos (by rw [hasT, hg]; rfl)]
        have := tAdd_rem hS (right_name hr') h0
        unfold tAdd at this
        rw [← h, if_neg (by simp [right_name hr']), if_neg (by rw [hasT, hg]; simp)] at this
        exact this
      · injection h with _ h; cases h
    · rw [if_neg (by omega), if_neg (by omega), if_neg (by omega), if_pos k3] at h
      have hf := flip3 k3
      rw [hf]
      split at h
      · rename_i hj
        injection h with h _
        have hd : T1 = delT (putT T p.to (getL T p.name)) p.name := by
          have := move_eq hS p.name p.to
          unfold tMove rMove at this
          rw [if_neg (by simp [hj.1, right_to hr' k3]), if_neg (by simp [hj.2]), if_neg (by simp [hj.1, right_to hr' k3]), if_neg (by simp [hj.2])] at this
          injection this with this _
          rw [h, ← this]
        have hb := move_back hS (right_name hr') hj.1 hj.2
        rw [← hd, move_eq hS1] at hb
        unfold rMove at hb
        have hto : getT T1 p.to = some (getL T p.name) := by rw [hd, moved_get hS hj.1 hj.2, if_neg (moved_ne hj.1 hj.2), if_pos rfl]
        have hna : getT T1 p.name = none := by rw [hd, moved_get hS hj.1 hj.2, if_pos rfl]
        rw [if_neg (by simp [hasT, hto, right_name hr']), if_neg (by simp [hasT, hna])] at hb
        rw [if_neg (by show ¬ p.kind = 0; omega), if_neg (by show ¬ p.kind = 1; omega), if_neg (by show ¬ p.kind = 2; omega), if_pos (by exact k3), if_pos ⟨by rw [hasT, hto]; rfl, by rw [hasT, hna]; rfl⟩]
        exact hb
      · injection h with _ h; cases h
end Go.Sx
end
section
set_option linter.unusedVariables false
set_option linter.unusedSimpArgs false
namespace Go.Proofs.YtmikcpaaomamiaaGreatDoor.X
open Go Go.RowKit Go.Proofs Go.Sx
attribute [local irreducible] slA isA box row TrL TrC TrN TrA Pu OpR
set_option maxHeartbeats 8000000
end Go.Proofs.YtmikcpaaomamiaaGreatDoor.X
end
section
set_option linter.unusedVariables false
set_option linter.unusedSimpArgs false
namespace Go.Proofs.YtmikcpaaomamiaaGreatDoor.X
open Go Go.RowKit Go.Proofs Go.Sx
open Tryz
attribute [local irreducible] slA isA box row TrL TrC TrN TrA Pu OpR
set_option maxHeartbeats 8000000
theorem inf39 : (Tryz.prog.info? 39).map (fun i => (i.zero, i.size, i.bytes)) = some (some (.agg #[.int .i64 0, .string ⟨#[]⟩, .string ⟨#[]⟩, .int .i64 0, .slice none 0 0, .slice none 0 0]), 6, 96) := by kernel_rfl
set_option maxRecDepth 100000 in
theorem c_seqCloned (l : List Prim) (A0 : Option Addr) (c0 : Nat) (hl : l.length ≤ 2000000) (hf : ∀ x ∈ l, x.fit) : Con Tryz.prog 37 [.slice A0 l.length c0] [] [slA A0 l] (Option Addr × Nat) (fun y => .slice y.1 l.length y.2) (fun y => [row 39 y.1 y.2 l]) (fun _ => []) := by
 refine con func37 rfl ntmps37 rfl ?_
 intro M0 F0 w0
 refine k_ 12 ?_
 refine cmono (fun a w h => nilRow (α := Prim) 39 h) ?_
 refine k_ 7 ?_
 refine cl (ι := {q : Nat × Option Addr × Nat // q.1 ≤ l.length}) (fun i => St M0 F0 w0 19 [(6, .slice A0 l.length c0), (7, .int .i64 (l.length : Int)), (8, .int .i64 (i.1.1 : Int)), (3, .slice i.1.2.1 (l.take i.1.1).length i.1.2.2)] [row 39 i.1.2.1 i.1.2.2 (l.take i.1.1)] [slA A0 l]) (fun i => l.length - i.1.1) ⟨(0, none, 0), Nat.zero_le _⟩ (wK [0]) ?_
 rintro ⟨⟨k, A, c⟩, hk⟩
 refine cmono (S' := St M0 F0 w0 19 [(6, .slice A0 l.length c0), (7, .int .i64 (l.length : Int)), (8, .int .i64 (k : Int)), (3, .slice A (l.take k).length c)] [row 39 A c (l.take k)] [slA A0 l]) Ħ ?_
 refine k_ 6 ?_
 refine cc rfl ?_ ?_
 ·
  intro h9
  dsimp only at hk
  try simp only [nrmZ] at h9
  have hk1 : k < l.length := by omega
  refine k_ 5 ?_
  refine elC Θ k (List.getElem?_eq_getElem (l := l) hk1) ?_; rintro zbp zop zyp hAp
  refine cr ?_
  refine ls (op (p_ia k hAp hk1 rfl underlying29 sizeOf39 rfl rfl) rfl) ?_
  refine ls (o_ldj isAgg39 sizeOf39 rfl Θ 0 rfl Δ rfl) ?_
  refine ls (o_alloc zeroValue39 rfl rfl) ?_
  refine le ?_; intro b5
  refine k_ 5 ?_
  refine ls (o_ldw isAgg39 sizeOf39 rfl Θ (by rfl) rfl) ?_
  refine lC [] call35 (c_primClone l[k] zyp (hf _ (List.getElem_mem hk1))) ?_; intro y14
  refine ls (o_bsl [l[k]] underlying29 sizeOf39 zeroValue39 rfl (Enum.t Enum.d) (RV.t y14 rfl Ω RV.d) rfl (by decide) (by decide) rfl) ?_
  refine le ?_; intro b15
  refine lmono (fun a w h => Go.Sx.freeze (i := 0) rfl h) ?_
  refine ls (o_app (is := [1]) underlying29 inf39 rfl (by decide) (by decide) rfl rfl (by rw [List.length_take]; simp only [List.length_cons, List.length_nil]; omega) (fun h => by cases h) rfl Ω rfl) ?_
  refine le ?_; rintro ⟨A', c'⟩
  rw [← List.take_succ_eq_append_getElem hk1]
  refine k_ 8 ?_
  refine nnext ⟨(k + 1, A', c'), hk1⟩ (by dsimp only; omega) (wK [0])
 ·
  intro h9
  dsimp only at hk
  try simp only [nrmZ] at h9
  obtain rfl : k = l.length := by omega
  refine k_ 6 ?_
  rw [List.take_length]
  refine k_ 7 ?_
  exact rR [0] (A, c)
set_option maxRecDepth 100000 in
theorem c_seqPast (p : Prim) (y : Rp.Lay Prim) (hp : p.fit) (m : List Prim) (B : Option Addr) (c : Nat) (hl : m.length ≤ 2000000) (hf : ∀ x ∈ m, x.fit) : Con Tryz.prog 39 [sv p y, .slice B m.length c] [] [slA y.1.1 p.old, slA y.2.1 p.new, slA B m] {x : (List Prim × Prim × Bool) × ((Option Addr × Nat) × Rp.Lay Prim) // x.1 = pastT p m} (fun x => .tuple #[.slice x.1.2.1.1 x.1.1.1.length x.1.2.1.2, sv x.1.1.2.1 x.1.2.2, .bool x.1.1.2.2]) (fun _ => []) (fun x => slA x.1.2.1.1 x.1.1.1 :: Rp.asn x.1.1.2.1 x.1.2.2) := by
 refine con func39 rfl ntmps39 rfl ?_
 intro M0 F0 w0
 refine k_ 2 ?_
 refine ls (o_box rfl rfl rfl) ?_
 refine le ?_; intro b2
 refine k_ 1 ?_
 refine ls (o_alloc zeroValue39 rfl rfl) ?_
 refine le ?_; intro b5
 refine k_ 5 ?_
 refine cmono (fun a w h => nilRow (α := Prim) 39 h) ?_
 refine k_ 7 ?_
 refine cl (ι := {q : Nat × List Prim × Prim × (Option Addr × Nat) × Rp.Lay Prim // q.1 ≤ m.length ∧ q.2.1.length = q.1 ∧ q.2.2.1.fit ∧ PI p m q.1 q.2.1 q.2.2.1}) (fun i => St M0 F0 w0 36 [(12, .slice B m.length c), (13, .int .i64 (m.length : Int)), (14, .int .i64 (i.1.1 : Int)), (4, .slice i.1.2.2.2.1.1 (i.1.2.1).length i.1.2.2.2.1.2), (2, .pointer (some ⟨b2, 0, none⟩)), (5, .pointer (some ⟨b5, 0, none⟩))] [row 39 i.1.2.2.2.1.1 i.1.2.2.2.1.2 i.1.2.1, box b2 39 (Rp.enc i.1.2.2.1 i.1.2.2.2.2), box b5 39 (Rp.enc Prim.zero ((none, 0), (none, 0)))] [slA (i.1.2.2.2.2).1.1 (i.1.2.2.1).old, slA (i.1.2.2.2.2).2.1 (i.1.2.2.1).new, slA B m]) (fun i => m.length - i.1.1) ⟨(0, [], p, (none, 0), y), Nat.zero_le _, rfl, hp, PI.start p m⟩ (wK [0, 1, 0]) ?_
 rintro ⟨⟨k, f, p1, ⟨A1, c1⟩, y1⟩, hk, hfl, hp1, hPI⟩
 refine cmono (S' := St M0 F0 w0 36 [(12, .slice B m.length c), (13, .int .i64 (m.length : Int)), (14, .int .i64 (k : Int)), (4, .slice A1 (f).length c1), (2, .pointer (some ⟨b2, 0, none⟩)), (5, .pointer (some ⟨b5, 0, none⟩))] [row 39 A1 c1 f, box b2 39 (Rp.enc p1 y1), box b5 39 (Rp.enc Prim.zero ((none, 0), (none, 0)))] [slA (y1).1.1 (p1).old, slA (y1).2.1 (p1).new, slA B m]) Ħ ?_
 refine k_ 6 ?_
 refine cc rfl ?_ ?_
 ·
  intro h15
  dsimp only at hk hfl hp1 hPI
  try simp only [nrmZ] at h15
  have hk1 : k < m.length := by omega
  refine k_ 5 ?_
  refine elC Θ k (List.getElem?_eq_getElem (l := m) hk1) ?_; rintro zbp zop zyp hAp
  refine cr ?_
  refine ls (op (p_ia k hAp hk1 rfl underlying29 sizeOf39 rfl rfl) rfl) ?_
  refine ls (o_ldj isAgg39 sizeOf39 rfl Θ 0 rfl Δ rfl) ?_
  refine ls (o_alloc zeroValue39 rfl rfl) ?_
  refine le ?_; intro b8
  refine k_ 5 ?_
  refine ls (o_ldw isAgg39 sizeOf39 rfl Θ (by rfl) rfl) ?_
  refine ls (o_ldw isAgg39 sizeOf39 rfl Θ (by rfl) rfl) ?_
  refine lC [] call54 (c_Swap p1 m[k] y1 zyp hp1 (hf _ (List.getElem_mem hk1))) ?_; rintro ⟨⟨⟨r1, r2, r3⟩, z1, z2⟩, hr⟩
  obtain ⟨e1, e2⟩ := swap_fit hp1 (hf _ (List.getElem_mem hk1)); rw [← hr] at e1 e2; dsimp only at hr e1 e2
  refine k_ 4 ?_
  refine ls (o_alloc zeroValue39 rfl rfl) ?_
  refine le ?_; intro b9
  refine ls (o_alloc zeroValue39 rfl rfl) ?_
  refine le ?_; intro b10
  refine k_ 12 ?_
  refine cc rfl ?_ ?_
  ·
   intro h26
   obtain rfl : false = r3 := by cases r3 <;> first | rfl | (simp at h26)
   refine cs ?_
   refine cmono (fun a w h => nilSl (α := Prim) h) ?_
   refine cmono (fun a w h => nilSl (α := ByteArray) h) ?_
   refine k_ 9 ?_
   refine rret (is := []) ⟨(([], Prim.zero, false), ((none, 0), ((none, 0), (none, 0)))), (hPI.stop hk1 hr).symm⟩ (Or.inl rfl) (Res.t rfl (Res.c rfl isAgg39 sizeOf39 Θ (by rfl) (Res.t rfl Res.d))) (rfl) rfl Ω
  ·
   intro h26
   obtain rfl : true = r3 := by cases r3 <;> first | rfl | (simp at h26)
   refine k_ 2 ?_
   refine cd [2, 3, 6] [(1, b9, 0, _), (4, b10, 0, _)] TryzX.mixed (TOk.t (isBoxS Θ (k := 6) Δ) (TOk.t (isBoxS Θ (k := 6) Δ) TOk.d)) ?_
   refine u_ 0 2 ?_
   refine u_ 4 1 ?_
   refine df 2 Ψ ?_
   refine doR rfl (o_bsl [r1] underlying29 sizeOf39 zeroValue39 rfl (Enum.t Enum.d) (RV.t z1 rfl Ω RV.d) rfl (by decide) (by decide) rfl) (TOk.x Ψ (TOk.t (isBoxE fun _ => isBoxS Θ (k := 6) Δ) TOk.d)) ?_
   refine ea ?_; intro b30
   refine amono (fun a w h => Go.Sx.freeze (i := 0) rfl h) ?_
   refine df 3 Ψ ?_
   refine doR rfl (o_app (is := [3]) underlying29 inf39 rfl (by decide) (by decide) rfl rfl (by simp only [List.length_cons, List.length_nil]; omega) (fun h => by cases h) rfl Ω rfl) (TOk.x Ψ (TOk.t (isBoxE fun _ => isBoxS Θ (k := 6) Δ) TOk.d)) ?_
   refine ea ?_; rintro ⟨A', c'⟩
   refine u_ 5 1 ?_
   refine df 6 Ψ ?_
   refine doR rfl (o_st rfl sizeOf39 rfl rfl rfl rfl rfl Θ Θ Θ) tX ?_
   refine dn Ψ ?_
   refine k_ 6 ?_
   refine nnext ⟨(k + 1, f ++ [r1], r2, (A', c'), z2), hk1, by simp [hfl], e2, hPI.step hk1 hr⟩ (by dsimp only; omega) (wK [0, 3, 3])
 ·
  intro h15
  dsimp only at hk hfl hp1 hPI
  try simp only [nrmZ] at h15
  refine k_ 6 ?_
  refine cmono (fun a w h => Go.Sx.freeze (i := 0) rfl h) ?_
  refine cd [3] [(1, b2, 0, _)] TryzX.mixed (TOk.t (isBoxS Θ (k := 6) Δ) TOk.d) ?_
  refine u_ 0 3 ?_
  refine df 3 Ψ ?_
  refine doR rfl (o_st rfl sizeOf39 rfl rfl rfl rfl rfl Θ Θ Θ) tX ?_
  refine u_ 4 1 ?_
  refine dn Ψ ?_
  refine k_ 3 ?_
  refine rret (is := []) ⟨((f, p1, true), ((A1, c1), y1)), (hPI.done (by omega)).symm⟩ (Or.inl rfl) (Res.t rfl (Res.c rfl isAgg39 sizeOf39 Θ (by rfl) (Res.t rfl Res.d))) (rfl) rfl Ω
end Go.Proofs.YtmikcpaaomamiaaGreatDoor.X
end
section
set_option linter.unusedVariables false
set_option linter.unusedSimpArgs false
namespace Go.Proofs.YtmikcpaaomamiaaGreatDoor.X
open Go Go.RowKit Go.Proofs Go.Sx
open Tryz
attribute [local irreducible] slA isA box row TrL TrC TrN TrA Pu OpR
set_option maxHeartbeats 8000000
set_option maxRecDepth 100000 in
theorem c_Backward (l : List Prim) (A : Option Addr) (c : Nat) : Con Tryz.prog 38 [.slice A l.length c] [] [] Nat (fun b => .func (.func 53) #[] #[.pointer (some ⟨b, 0, none⟩)]) (fun b => [box b 29 [.slice A l.length c]]) (fun _ => []) := by
 refine con func38 rfl ntmps38 rfl ?_
 intro M0 F0 w0
 refine k_ 2 ?_
 refine ls (o_box rfl rfl rfl) ?_
 refine le ?_; intro b1
 refine k_ 5 ?_
 refine ls (op (p_mkf rfl) rfl) ?_
 refine k_ 5 ?_
 exact rR [0] b1
set_option maxRecDepth 100000 in
theorem c_Backward1 (l : List Prim) (A : Option Addr) (c : Nat) (hl : l.length ≤ 2000000) (B : Nat) : Iter Tryz.prog 53 [.pointer (some ⟨B, 0, none⟩)] (fun x : {x : Nat × Rp.Lay Prim // x.1 < l.length} => [.int .i64 (x.1.1 : Int), sv (l[x.1.1]'x.2) x.1.2]) (fun x => Rp.asn (l[x.1.1]'x.2) x.1.2) (fun pre x => x.1.1 + pre.length + 1 = l.length) (fun xs => xs.length = l.length) [box B 29 [.slice A l.length c]] [slA A l] := by
 intro lp J Jx hY
 refine con func53 rfl ntmps53 rfl ?_
 intro M0 F0 w0
 refine k_ 9 ?_
 refine cl (ι := {q : List {x : Nat × Rp.Lay Prim // x.1 < l.length} × Int // q.1.length ≤ l.length ∧ q.2 = (l.length : Int) - 1 - (q.1.length : Int)}) (fun i => St M0 F0 w0 19 [(0, .func (.yield lp) #[] #[]), (1, .pointer (some ⟨B, 0, none⟩)), (3, .int .i64 i.1.2)] [J i.1.1, box B 29 [.slice A l.length c]] [slA A l]) (fun i => l.length - (i.1.1).length) ⟨([], (l.length : Int) - 1), Nat.zero_le _, by simp⟩ (wk0 Φ Ω) ?_
 rintro ⟨⟨pre, z⟩, hpre, hz⟩
 refine cmono (S' := St M0 F0 w0 19 [(0, .func (.yield lp) #[] #[]), (1, .pointer (some ⟨B, 0, none⟩)), (3, .int .i64 z)] [J pre, box B 29 [.slice A l.length c]] [slA A l]) Ħ ?_
 refine k_ 7 ?_
 refine cc rfl ?_ ?_
 ·
  intro h8
  dsimp only at hpre hz
  try simp only [nrmZ] at h8
  have hk1 : l.length - 1 - pre.length < l.length := by omega
  refine k_ 5 ?_
  refine elC Θ (l.length - 1 - pre.length) (List.getElem?_eq_getElem (l := l) hk1) ?_; rintro zbp zop zyp hAp
  refine k_ 5 ?_
  refine ls (op (p_ia (l.length - 1 - pre.length) hAp hk1 (by omega) underlying29 sizeOf39 rfl rfl) rfl) ?_
  refine ls (o_ldj isAgg39 sizeOf39 rfl Θ 0 rfl Δ rfl) ?_
  refine ls (o_yield (i := 0) rfl (by have := hY pre ⟨(l.length - 1 - pre.length, zyp), hk1⟩ (by dsimp only; omega); dsimp only at this; rw [show ((l.length - 1 - pre.length : Nat) : Int) = z by omega] at this; exact this) rfl rfl Ω rfl) ?_
  refine le ?_; intro bb
  refine k_ 3 ?_
  refine cc rfl ?_ ?_
  ·
   intro h18
   obtain rfl : false = bb := by cases bb <;> first | rfl | (simp at h18)
   refine k_ 2 ?_
   exact rR [0, 0] ⟨none, fun _ h => by cases h⟩
  ·
   intro h18
   obtain rfl : true = bb := by cases bb <;> first | rfl | (simp at h18)
   refine k_ 8 ?_
   refine nnext ⟨(pre ++ [⟨(l.length - 1 - pre.length, zyp), hk1⟩], z - 1), by simp; omega, by simp; omega⟩ (by simp; omega) (wK [0, 0])
 ·
  intro h8
  dsimp only at hpre hz
  try simp only [nrmZ] at h8
  refine k_ 4 ?_
  exact rR [0, 0] ⟨some pre, fun xs h => by cases h; omega⟩
set_option maxRecDepth 100000 in
theorem c_seqSwap (l m : List Prim) (A B : Option Addr) (c c' : Nat) (hl : l.length ≤ 2000000) (hm : m.length ≤ 2000000) (hfl : ∀ x ∈ l, x.fit) (hfm : ∀ x ∈ m, x.fit) : Con Tryz.prog 23 [.slice A l.length c, .slice B m.length c'] [] [slA A l, slA B m] {x : (List Prim × List Prim × Bool) × ((Option Addr × Nat) × (Option Addr × Nat)) // x.1 = swT l m} (fun x => .tuple #[.slice x.1.2.1.1 x.1.1.1.length x.1.2.1.2, .slice x.1.2.2.1 x.1.1.2.1.length x.1.2.2.2, .bool x.1.1.2.2]) (fun _ => []) (fun x => [slA x.1.2.1.1 x.1.1.1, slA x.1.2.2.1 x.1.1.2.1]) := by
 refine con func23 rfl ntmps23 rfl ?_
 intro M0 F0 w0
 refine k_ 2 ?_
 refine ls (o_alloc zeroValue29 rfl rfl) ?_
 refine le ?_; intro b4
 refine ls (o_alloc zeroValue29 rfl rfl) ?_
 refine le ?_; intro b5
 refine ls (o_alloc zeroValue4 rfl rfl) ?_
 refine le ?_; intro b6
 refine k_ 5 ?_
 refine lC [] call37 (c_seqCloned m B c' hm hfm) ?_; rintro ⟨A1, c1⟩
 refine lmono (fun a w h => Go.Sx.freeze (i := 0) rfl h) ?_
 refine k_ 5 ?_
 refine cmono (fun a w h => nilSl (α := Prim) h) ?_
 refine k_ 2 ?_
 refine lC [] call38 (c_Backward l A c) ?_; intro b15
 refine k_ 3 ?_
 refine crng (ι := fun pre => {q : List Prim × List Prim × (Option Addr × Nat) × (Option Addr × Nat) // SI l m pre.length q.1 q.2.1 ∧ (q.2.1 = [] → q.2.2.2.2 = 0)}) rfl call53 (c_Backward1 l A c hl b15) (fun _ => rfl) rfl (fun pre i => [box b4 29 [.slice i.1.2.2.1.1 i.1.1.length i.1.2.2.1.2], box b5 29 [.slice i.1.2.2.2.1 i.1.2.1.length i.1.2.2.2.2], box b6 4 [.bool false]]) (fun pre i => [slA i.1.2.2.1.1 i.1.1, slA i.1.2.2.2.1 i.1.2.1]) (⟨(m, [], (A1, c1), (none, 0)), SI.start hfm, fun _ => rfl⟩) (Y := {u : Unit // swT l m = ([], [], false)}) (fun _ => [box b4 29 [.slice none 0 0], box b5 29 [.slice none 0 0], box b6 4 [.bool false]]) (fun _ => []) (is := [3, 2, 1, 0]) rfl Ω Ω ?_ ?_ ?_
 ·
  rintro M0 F0 w0 lp κ pre ⟨⟨k, yk⟩, hk⟩ hx ⟨⟨f, s, ⟨A1, c1⟩, ⟨A2, c2⟩⟩, hI, hA2⟩
  dsimp only at hk hx hI hA2
  have hfl1 := hI.fl; have hsl1 := hI.sl; have hfk := hfl _ (List.getElem_mem hk)
  refine cmono (S' := St M0 F0 w0 ⟨35, []⟩ [(4, .pointer (some ⟨b4, 0, none⟩)), (5, .pointer (some ⟨b5, 0, none⟩)), (6, .pointer (some ⟨b6, 0, none⟩)), (17, sv l[k] yk)] [lrec lp κ .ready none, box b4 29 [.slice A1 f.length c1], box b5 29 [.slice A2 s.length c2], box b6 4 [.bool false]] [slA A1 f, slA A2 s, slA yk.1.1 l[k].old, slA yk.2.1 l[k].new]) (wk0 Φ Ω) ?_
  refine cr ?_
  refine ls (o_alloc zeroValue39 rfl rfl) ?_
  refine le ?_; intro b8
  refine k_ 2 ?_
  refine nbegin (i := 1) rfl ?_
  refine k_ 3 ?_
  refine ls (o_ldw isAgg39 sizeOf39 rfl Θ (by rfl) rfl) ?_
  refine k_ 1 ?_
  refine lC [] call39 (c_seqPast l[k] yk hfk f A1 c1 (by omega) hI.ff) ?_; rintro ⟨⟨⟨f', q, r3⟩, ⟨⟨A', c'⟩, z2⟩⟩, hr⟩
  dsimp only at hr
  refine k_ 4 ?_
  refine ls (o_alloc zeroValue39 rfl rfl) ?_
  refine le ?_; intro b10
  refine k_ 12 ?_
  refine cc rfl ?_ ?_
  ·
   intro h26
   obtain rfl : false = r3 := by cases r3 <;> first | rfl | (simp at h26)
   refine k_ 8 ?_
   refine xretR Ħ ?_
   exact nrret ⟨(), hI.stop (by omega) hr⟩ (is := [1, 2, 2, 2]) rfl Ω
  ·
   intro h26
   obtain rfl : true = r3 := by cases r3 <;> first | rfl | (simp at h26)
   have hq := past1_ok (pastT_true hr) hfk hI.ff
   refine k_ 2 ?_
   refine cd [2, 3, 5, 6, 7] [(1, b10, 0, _), (4, b5, 0, _)] TryzX.mixed (TOk.t (isBoxS Θ (k := 6) Δ) (TOk.t (isBoxS Θ (k := 1) Δ) TOk.d)) ?_
   refine u_ 0 2 ?_
   refine u_ 4 1 ?_
   refine df 2 Ψ ?_
   refine doR rfl (o_call (is := []) call35 (c_primClone q z2 hq.2.1) rfl rfl Ω rfl) (TOk.x Ψ (TOk.t (isBoxE fun _ => isBoxS Θ (k := 1) Δ) TOk.d)) ?_
   refine ea ?_; intro z3
   refine df 3 Ψ ?_
   refine doR rfl (o_bsl [q] underlying29 sizeOf39 zeroValue39 rfl (Enum.t Enum.d) (RV.t z3 rfl Ω RV.d) rfl (by decide) (by decide) rfl) (TOk.x Ψ (TOk.t (isBoxE fun _ => isBoxS Θ (k := 1) Δ) TOk.d)) ?_
   refine ea ?_; intro b30
   refine df 5 Ψ ?_
   refine doR rfl (o_app (is := [0]) underlying29 inf39 rfl (by decide) (by decide) rfl rfl (by simp only [List.length_cons, List.length_nil]; omega) (fun h _ => hA2 h) rfl Ω rfl) tX ?_
   refine ea ?_; rintro ⟨A3, c3⟩
   refine amono (fun a w h => Go.Sx.freeze (i := 0) rfl h) ?_
   refine df 6 Ψ ?_
   refine doR rfl (o_st rfl sizeOf29 rfl rfl rfl rfl rfl Θ Θ Θ) tX ?_
   refine df 7 Ψ ?_
   refine doR rfl (o_st rfl sizeOf29 rfl rfl rfl rfl rfl Θ Θ Θ) tX ?_
   refine dn Ψ ?_
   refine k_ 1 ?_
   exact nround ⟨(f', q :: s, (A', c'), (A3, c3)), by rw [List.length_append]; exact hI.step (by omega) hfl hr, fun h => by cases h⟩ (is := [1, 2, 2, 2]) rfl Ω
 ·
  rintro D xs hC ⟨⟨f, s, ⟨A1, c1⟩, ⟨A2, c2⟩⟩, hI, hA2⟩
  dsimp only at hC hI
  have hd := hI.done hC
  refine k_ 3 ?_
  refine cd [2, 3, 4] [(0, b4, 0, _), (1, b5, 0, _)] TryzX.mixed (TOk.t (isBoxS Θ (k := 1) Δ) (TOk.t (isBoxS Θ (k := 1) Δ) TOk.d)) ?_
  refine u_ 0 2 ?_
  refine df 2 Ψ ?_
  refine doR rfl (o_st rfl sizeOf29 rfl rfl rfl rfl rfl Θ Θ Θ) (TOk.x Ψ (TOk.t (isBoxS Θ (k := 1) Δ) TOk.d)) ?_
  refine df 3 Ψ ?_
  refine doR rfl (o_st rfl sizeOf29 rfl rfl rfl rfl rfl Θ Θ Θ) tX ?_
  refine df 4 Ψ ?_
  refine doR rfl (o_st rfl sizeOf4 rfl rfl rfl rfl rfl Θ Θ Θ) tX ?_
  refine dn Ψ ?_
  refine k_ 3 ?_
  refine rretm (Dfr.c (i := 4) rfl Dfr.d) (is := []) ⟨((f, s, true), ((A1, c1), (A2, c2))), hd.symm⟩ (Or.inl rfl) (Res.c1 rfl isAgg29 Θ (Res.c1 rfl isAgg29 Θ (Res.c1 rfl isAgg4 Θ Res.d))) (rfl) rfl Ω
 ·
  rintro D ⟨_, hst⟩
  refine nmono (fun a w h => nilSl (α := Prim) h) ?_
  refine k_ 1 ?_
  refine rretm (Dfr.c (i := 4) rfl Dfr.d) (is := []) ⟨(([], [], false), ((none, 0), (none, 0))), hst.symm⟩ (Or.inl rfl) (Res.c1 rfl isAgg29 Θ (Res.c1 rfl isAgg29 Θ (Res.c1 rfl isAgg4 Θ Res.d))) (rfl) rfl Ω
set_option maxRecDepth 100000 in
theorem c_IndexFuncP (l : List Prim) (A : Option Addr) (c : Nat) (hl : l.length ≤ 2000000) (f : Prim → Bool) (g : FuncId) (cap : List Value) (Γf : List Asn) (hcf : ∀ args w, (callFunc g args).run Tryz.prog w = .ok (.enter g args) w) (hg : ∀ x ∈ l, ∀ y, Con Tryz.prog g (sv x y :: cap) [] (Rp.asn x y ++ Γf) Unit (fun _ => .bool (f x)) (fun _ => []) (fun _ => [])) : Con Tryz.prog 57 [.slice A l.length c, .func (.func g) #[] cap.toArray] [] (slA A l :: Γf) {r : Int // -1 ≤ r ∧ r ≤ 2000000 ∧ (0 ≤ r ↔ l.any f = true)} (fun r => .int .i64 r.1) (fun _ => []) (fun _ => []) := by
 refine con func57 rfl ntmps57 rfl ?_
 intro M0 F0 w0
 refine k_ 14 ?_
 refine cl (ι := {k : Nat // k ≤ l.length ∧ (l.take k).any f = false}) (fun i => St M0 F0 w0 19 [(0, .slice A l.length c), (1, .func (.func g) #[] cap.toArray), (7, .int .i64 (l.length : Int)), (8, .int .i64 (i.1 : Int))] [] (slA A l :: Γf)) (fun i => l.length - i.1) ⟨0, by simp⟩ (wk0 Φ Ω) ?_
 rintro ⟨k, hk, hkk⟩
 refine cmono (S' := St M0 F0 w0 19 [(0, .slice A l.length c), (1, .func (.func g) #[] cap.toArray), (7, .int .i64 (l.length : Int)), (8, .int .i64 (k : Int))] [] (slA A l :: Γf)) Ħ ?_
 refine k_ 6 ?_
 refine cc rfl ?_ ?_
 ·
  intro h9
  try simp only [nrmZ] at h9
  have hk1 : k < l.length := by omega
  refine k_ 11 ?_
  refine elC Θ k (List.getElem?_eq_getElem (l := l) hk1) ?_; rintro zbp zop zyp hAp
  refine k_ 4 ?_
  refine ls (op (p_ia k hAp hk1 rfl underlying29 sizeOf39 rfl rfl) rfl) ?_
  refine ls (o_ldj isAgg39 sizeOf39 rfl Θ 0 rfl Δ rfl) ?_
  refine ls (o_callv (is := []) rfl hcf (hg _ (List.getElem_mem hk1) _) rfl rfl rfl (Sub.app Ω Ω) rfl) ?_
  refine le ?_; intro x16
  refine k_ 2 ?_
  refine cc rfl ?_ ?_
  ·
   intro h16
   try simp only [nrmZ] at h16
   refine k_ 8 ?_
   exact rR [] ⟨(k : Int), by omega, by omega, by simp only [List.any_eq_true]; exact ⟨fun _ => ⟨_, List.getElem_mem hk1, h16⟩, fun _ => by omega⟩⟩
  ·
   intro h16
   try simp only [nrmZ] at h16
   refine k_ 7 ?_
   refine nnext ⟨k + 1, hk1, by rw [List.take_succ_eq_append_getElem hk1, List.any_append, hkk]; simp [h16]⟩ (by dsimp only; omega) (wk0 Φ Ω)
 ·
  intro h9
  try simp only [nrmZ] at h9
  refine k_ 12 ?_
  exact rR [] ⟨-1, by omega, by omega, by rw [List.take_of_length_le (by omega)] at hkk; simp [hkk]⟩
set_option maxRecDepth 100000 in
theorem c_ContainsFuncP (l : List Prim) (A : Option Addr) (c : Nat) (hl : l.length ≤ 2000000) (f : Prim → Bool) (g : FuncId) (cap : List Value) (Γf : List Asn) (hcf : ∀ args w, (callFunc g args).run Tryz.prog w = .ok (.enter g args) w) (hg : ∀ x ∈ l, ∀ y, Con Tryz.prog g (sv x y :: cap) [] (Rp.asn x y ++ Γf) Unit (fun _ => .bool (f x)) (fun _ => []) (fun _ => [])) : Con Tryz.prog 49 [.slice A l.length c, .func (.func g) #[] cap.toArray] [] (slA A l :: Γf) Unit (fun _ => .bool (l.any f)) (fun _ => []) (fun _ => []) := by
 refine con func49 rfl ntmps49 rfl ?_
 intro M0 F0 w0
 refine k_ 9 ?_
 refine lC [] call57 (c_IndexFuncP l A c hl f g cap Γf hcf hg) ?_; rintro ⟨r, hr1, hr2, hr3⟩
 refine k_ 6 ?_
 refine rret (is := []) () (Or.inl rfl) (Res.t rfl Res.d) ?_ rfl Ω
 simp [packV]; rw [Bool.eq_iff_iff]; simp [← hr3]
set_option maxRecDepth 100000 in
theorem c_seqRight1 (p : Prim) (y : Rp.Lay Prim) (hp : p.fit) : Con Tryz.prog 50 [sv p y] [] (Rp.asn p y) Unit (fun _ => .bool (!p.right)) (fun _ => []) (fun _ => []) := by
 refine con func50 rfl ntmps50 rfl ?_
 intro M0 F0 w0
 refine k_ 2 ?_
 refine ls (o_box rfl rfl rfl) ?_
 refine le ?_; intro b1
 refine k_ 5 ?_
 refine ls (o_ldw isAgg39 sizeOf39 rfl Θ (by rfl) rfl) ?_
 refine lC [] call51 (c_primRight p y hp) ?_; intro x4
 refine k_ 6 ?_
 exact rR [] ()
set_option maxRecDepth 100000 in
theorem c_seqRight (l : List Prim) (A : Option Addr) (c : Nat) (hl : l.length ≤ 2000000) (hf : ∀ x ∈ l, x.fit) : Con Tryz.prog 34 [.slice A l.length c] [] [slA A l] Unit (fun _ => .bool (l.all Prim.right)) (fun _ => []) (fun _ => []) := by
 refine con func34 rfl ntmps34 rfl ?_
 intro M0 F0 w0
 refine k_ 8 ?_
 refine lC [] call49 (c_ContainsFuncP l A c hl (fun x => !x.right) 50 [] [] call50 (fun x hx y => by rw [List.append_nil]; exact c_seqRight1 x y (hf x hx))) ?_; intro x4
 refine k_ 6 ?_
 refine rret (is := []) () (Or.inl rfl) (Res.t rfl Res.d) ?_ rfl Ω
 simp [packV, List.any_eq_not_all_not]
set_option maxRecDepth 100000 in
theorem c_ref5Right (l : List Prim) (A : Option Addr) (c : Nat) (hl : l.length ≤ 2000000) (hf : ∀ x ∈ l, x.fit) : Con Tryz.prog 14 [.slice A l.length c] [] [slA A l] Unit (fun _ => .bool (l.all Prim.right)) (fun _ => []) (fun _ => []) := by
 refine con func14 rfl ntmps14 rfl ?_
 intro M0 F0 w0
 refine k_ 12 ?_
 refine cl (ι := {k : Nat // k ≤ l.length ∧ (l.take k).all Prim.right = true}) (fun i => St M0 F0 w0 16 [(0, .slice A l.length c), (3, .int .i64 (i.1 : Int))] [] [slA A l]) (fun i => l.length - i.1) ⟨0, by simp⟩ (wk0 Φ Ω) ?_
 rintro ⟨k, hk, hkk⟩
 refine cmono (S' := St M0 F0 w0 16 [(0, .slice A l.length c), (3, .int .i64 (k : Int))] [] [slA A l]) Ħ ?_
 refine k_ 9 ?_
 refine cc rfl ?_ ?_
 ·
  intro h7
  try simp only [nrmZ] at h7
  have hk1 : k < l.length := by omega
  refine k_ 5 ?_
  refine elC Θ k (List.getElem?_eq_getElem (l := l) hk1) ?_; rintro zbp zop zyp hAp
  refine k_ 3 ?_
  refine ls (op (p_ia k hAp hk1 rfl underlying23 sizeOf61 rfl rfl) rfl) ?_
  refine ls (o_ldj isAgg61 sizeOf61 rfl Θ 0 rfl Δ rfl) ?_
  refine lC [] call27 (c_refRight l[k] zyp (hf _ (List.getElem_mem hk1))) ?_; intro x14
  refine k_ 3 ?_
  refine cc rfl ?_ ?_
  ·
   intro h15
   try simp only [nrmZ] at h15
   refine k_ 7 ?_
   refine rret (is := []) () (Or.inl rfl) (Res.t rfl Res.d) ?_ rfl Ω
   simp only [packV]; rw [all_not (List.getElem_mem hk1) h15]
  ·
   intro h15
   try simp only [nrmZ] at h15
   refine k_ 8 ?_
   refine nnext ⟨k + 1, hk1, by rw [List.take_succ_eq_append_getElem hk1, List.all_append, hkk]; simp [h15]⟩ (by dsimp only; omega) (wk0 Φ Ω)
 ·
  intro h7
  try simp only [nrmZ] at h7
  refine k_ 12 ?_
  refine rret (is := []) () (Or.inl rfl) (Res.t rfl Res.d) ?_ rfl Ω
  simp only [packV]; rw [List.take_of_length_le (by omega)] at hkk; rw [hkk]
set_option maxRecDepth 100000 in
theorem c_refAllP (l m : List Prim) (A B : Option Addr) (c c' : Nat) (hl : l.length ≤ 2000000) (hf : ∀ x ∈ l, x.fit) : Con Tryz.prog 24 [.slice A l.length c, .slice B m.length c'] [] [slA A l, slA B m] Unit (fun _ => .bool (decide (l = m))) (fun _ => []) (fun _ => []) := by
 refine con func24 rfl ntmps24 rfl ?_
 intro M0 F0 w0
 refine k_ 15 ?_
 refine cc rfl ?_ ?_
 ·
  intro h10
  try simp only [nrmZ] at h10
  refine k_ 7 ?_
  refine rret (is := []) () (Or.inl rfl) (Res.t rfl Res.d) ?_ rfl Ω
  simp [packV]; intro e; rw [e] at h10; exact h10 rfl
 ·
  intro h10
  try simp only [nrmZ] at h10
  refine k_ 9 ?_
  refine cl (ι := {k : Nat // k ≤ l.length ∧ l.take k = m.take k}) (fun i => St M0 F0 w0 27 [(0, .slice A l.length c), (1, .slice B m.length c'), (5, .int .i64 (i.1 : Int))] [] [slA A l, slA B m]) (fun i => l.length - i.1) ⟨0, by simp⟩ (wk0 Φ Ω) ?_
  rintro ⟨k, hk, hkk⟩
  refine cmono (S' := St M0 F0 w0 27 [(0, .slice A l.length c), (1, .slice B m.length c'), (5, .int .i64 (k : Int))] [] [slA A l, slA B m]) Ħ ?_
  refine k_ 9 ?_
  refine cc rfl ?_ ?_
  ·
   intro h14
   try simp only [nrmZ] at h14
   have hk1 : k < l.length := by omega
   have hk2 : k < m.length := by omega
   refine k_ 5 ?_
   refine elC Θ k (List.getElem?_eq_getElem (l := l) hk1) ?_; rintro zbp zop zyp hAp
   refine elC Θ k (List.getElem?_eq_getElem (l := m) hk2) ?_; rintro zbq zoq zyq hAq
   refine cd [8] [(3, zbp, zop + k * Rp.size Prim, _), (7, zbq, zoq + k * Rp.size Prim, _)] TryzX.mixed (TOk.t (isInS Θ (k := 0) rfl (z := 6) Δ) (TOk.t (isInS Θ (k := 0) rfl (z := 6) Δ) TOk.d)) ?_
   refine u_ 0 2 ?_
   refine tk 2 rfl Ψ Υ gnone (TTany _) (p_ia k hAp hk1 rfl underlying23 sizeOf61 rfl rfl) rfl ?_
   refine u_ 3 3 ?_
   refine tk 6 rfl Ψ Υ gnone (TTany _) (p_ia k hAq hk2 rfl underlying23 sizeOf61 rfl rfl) rfl ?_
   refine u_ 7 1 ?_
   refine df 8 Ψ ?_
   refine doR rfl (o_call (is := []) call40 (c_refSame l[k] m[k] zyp zyq (hf _ (List.getElem_mem hk1))) rfl rfl Ω rfl) tX ?_
   refine ea ?_; intro x25
   refine u_ 9 1 ?_
   refine dn Ψ ?_
   refine k_ 1 ?_
   refine cc rfl ?_ ?_
   ·
    intro h26
    try simp only [nrmZ] at h26
    refine k_ 7 ?_
    refine rret (is := []) () (Or.inl rfl) (Res.t rfl Res.d) ?_ rfl Ω
    simp [packV]; rintro rfl; exact h26 rfl
   ·
    intro h26
    try simp only [nrmZ] at h26
    refine k_ 8 ?_
    refine nnext ⟨k + 1, hk1, by rw [List.take_succ_eq_append_getElem hk1, List.take_succ_eq_append_getElem hk2, hkk, h26]⟩ (by dsimp only; omega) (wK [])
  ·
   intro h14
   try simp only [nrmZ] at h14
   refine k_ 12 ?_
   refine rret (is := []) () (Or.inl rfl) (Res.t rfl Res.d) ?_ rfl Ω
   simp [packV]; have := List.take_of_length_le (l := l) (i := k) (by omega); have := List.take_of_length_le (l := m) (i := k) (by omega); simp_all
set_option maxRecDepth 100000 in
theorem c_EqualFuncP (l m : List Prim) (A B : Option Addr) (c c' : Nat) (hl : l.length ≤ 2000000) (hf : ∀ x ∈ l, x.fit) : Con Tryz.prog 45 [.slice A l.length c, .slice B m.length c', .func (.func 46) #[] #[]] [] [slA A l, slA B m] Unit (fun _ => .bool (decide (l = m))) (fun _ => []) (fun _ => []) := by
 refine con func45 rfl ntmps45 rfl ?_
 intro M0 F0 w0
 refine k_ 15 ?_
 refine cc rfl ?_ ?_
 ·
  intro h14
  try simp only [nrmZ] at h14
  refine k_ 7 ?_
  refine rret (is := []) () (Or.inl rfl) (Res.t rfl Res.d) ?_ rfl Ω
  simp [packV]; intro e; rw [e] at h14; exact h14 rfl
 ·
  intro h14
  try simp only [nrmZ] at h14
  refine k_ 11 ?_
  refine cl (ι := {k : Nat // k ≤ l.length ∧ l.take k = m.take k}) (fun i => St M0 F0 w0 32 [(0, .slice A l.length c), (1, .slice B m.length c'), (2, .func (.func 46) #[] #[]), (15, .slice A l.length c), (16, .int .i64 (l.length : Int)), (17, .int .i64 (i.1 : Int))] [] [slA A l, slA B m]) (fun i => l.length - i.1) ⟨0, by simp⟩ (wk0 Φ Ω) ?_
  rintro ⟨k, hk, hkk⟩
  refine cmono (S' := St M0 F0 w0 32 [(0, .slice A l.length c), (1, .slice B m.length c'), (2, .func (.func 46) #[] #[]), (15, .slice A l.length c), (16, .int .i64 (l.length : Int)), (17, .int .i64 (k : Int))] [] [slA A l, slA B m]) Ħ ?_
  refine k_ 6 ?_
  refine cc rfl ?_ ?_
  ·
   intro h18
   try simp only [nrmZ] at h18
   have hk1 : k < l.length := by omega
   have hk2 : k < m.length := by omega
   refine k_ 5 ?_
   refine elC Θ k (List.getElem?_eq_getElem (l := l) hk1) ?_; rintro zbp zop zyp hAp
   refine k_ 2 ?_
   refine ls (op (p_ia k hAp hk1 rfl underlying29 sizeOf39 rfl rfl) rfl) ?_
   refine ls (o_ldj isAgg39 sizeOf39 rfl Θ 0 rfl Δ rfl) ?_
   refine ls (o_alloc zeroValue39 rfl rfl) ?_
   refine le ?_; intro b8
   refine k_ 5 ?_
   refine elC Θ k (List.getElem?_eq_getElem (l := m) hk2) ?_; rintro zbq zoq zyq hAq
   refine k_ 3 ?_
   refine ls (op (p_ia k hAq hk2 rfl underlying29 sizeOf39 rfl rfl) rfl) ?_
   refine ls (o_ldj isAgg39 sizeOf39 rfl Θ 0 rfl Δ rfl) ?_
   refine ls (o_alloc zeroValue39 rfl rfl) ?_
   refine le ?_; intro b9
   refine k_ 6 ?_
   refine ls (o_ldw isAgg39 sizeOf39 rfl Θ (by rfl) rfl) ?_
   refine ls (o_ldw isAgg39 sizeOf39 rfl Θ (by rfl) rfl) ?_
   refine ls (o_callv (is := []) rfl call46 (c_primSame l[k] m[k] zyp zyq (hf _ (List.getElem_mem hk1))) rfl rfl rfl Ω rfl) ?_
   refine le ?_; intro x29
   refine k_ 3 ?_
   refine cc rfl ?_ ?_
   ·
    intro h30
    try simp only [nrmZ] at h30
    refine k_ 7 ?_
    refine rret (is := []) () (Or.inl rfl) (Res.t rfl Res.d) ?_ rfl Ω
    simp [packV]; rintro rfl; exact h30 rfl
   ·
    intro h30
    try simp only [nrmZ] at h30
    refine k_ 7 ?_
    refine nnext ⟨k + 1, hk1, by rw [List.take_succ_eq_append_getElem hk1, List.take_succ_eq_append_getElem hk2, hkk, h30]⟩ (by dsimp only; omega) (wK [])
  ·
   intro h18
   try simp only [nrmZ] at h18
   refine k_ 12 ?_
   refine rret (is := []) () (Or.inl rfl) (Res.t rfl Res.d) ?_ rfl Ω
   simp [packV]; have := List.take_of_length_le (l := l) (i := k) (by omega); have := List.take_of_length_le (l := m) (i := k) (by omega); simp_all
set_option maxRecDepth 100000 in
theorem c_seqSame (l m : List Prim) (A B : Option Addr) (c c' : Nat) (hl : l.length ≤ 2000000) (hf : ∀ x ∈ l, x.fit) : Con Tryz.prog 30 [.slice A l.length c, .slice B m.length c'] [] [slA A l, slA B m] Unit (fun _ => .bool (decide (l = m))) (fun _ => []) (fun _ => []) := by
 refine con func30 rfl ntmps30 rfl ?_
 intro M0 F0 w0
 refine k_ 9 ?_
 refine lC [] call45 (c_EqualFuncP l m A B c c' hl hf) ?_; intro x7
 refine k_ 5 ?_
 exact rR [] ()
end Go.Proofs.YtmikcpaaomamiaaGreatDoor.X
end
section
set_option linter.unusedVariables false
set_option linter.unusedSimpArgs false
namespace Go.Sx
open Go Go.RowKit
end Go.Sx
end
section
set_option linter.unusedVariables false
set_option linter.unusedSimpArgs false
namespace Go.Sx
open Go Go.RowKit
def news (ps : List Prim) : Nat := (ps.map fun p => p.new.length).sum
structure AppInv (m n : Nat) (T : List File) : Prop where
  so : Sor T
  good : Good T
  lmax : Lmax m T
  len : T.length ≤ n
theorem AppInv.apply {m n : Nat} {T : List File} (h : AppInv m n T) (p : Prim) : AppInv (m + p.new.length) (n + 1) (rApplyT T p).1 :=
  ⟨rApply_sor h.so p, rApply_good h.good p, rApply_lmax h.lmax p, Nat.le_trans (rApply_len T p) (Nat.succ_le_succ h.len)⟩
theorem AppInv.made (l : List TOp) : AppInv (omany l) l.length (madeT l) := by
  have ht : Tok l.length (omany l) (madeT l) := madeT_tok fun o ho => omany_mem ho
  exact ⟨madeT_sor l, madeT_good l, fun x hx => (ht.fit x hx).1, ht.len⟩
end Go.Sx
end
section
set_option linter.unusedVariables false
set_option linter.unusedSimpArgs false
namespace Go.Sx
open Go
open Classical in
def Ran (T : List File) (p : Prim) (U : List File) : Prop := rApplyT T p = (U, 0)
theorem ran_sor {T U : List File} {p : Prim} (h : Ran T p U) (hS : Sor T) : Sor U := by
  have := rApply_sor hS p; rw [h] at this; exact this
/-! rows -/
def Runs : List File → List Prim → List File → Prop
  | T, [], U => T = U
  | T, p :: l, U => ∃ M, Ran T p M ∧ Runs M l U
theorem runs_app {l m : List Prim} {U : List File} : ∀ {T : List File}, Runs T (l ++ m) U ↔ ∃ M, Runs T l M ∧ Runs M m U := by
  induction l with
  | nil => intro T; exact ⟨fun h => ⟨T, rfl, h⟩, fun ⟨M, e, h⟩ => by cases e; exact h⟩
  | cons p l ih =>
    intro T
    show (∃ M, Ran T p M ∧ Runs M (l ++ m) U) ↔ _
    constructor
    · rintro ⟨M, h1, h2⟩
      obtain ⟨N, h3, h4⟩ := ih.1 h2
      exact ⟨N, ⟨M, h1, h3⟩, h4⟩
    · rintro ⟨N, ⟨M, h1, h3⟩, h4⟩
      exact ⟨M, h1, ih.2 ⟨N, h3, h4⟩⟩
theorem ran_back {T U : List File} {p : Prim} (hS : Sor T) (hG : Good T) (h : Ran T p U) : Ran U p.flip T := by
  have h1 : (U, (0 : Int)) = applyT T p := by rw [apply_eq hS hG]; exact h.symm
  have hG1 : Good U := by have := rApply_good hG p; rw [h] at this; exact this
  have := apply_back hS hG h1
  rw [apply_eq (ran_sor h hS) hG1] at this
  exact this
theorem invL_cons (p : Prim) (l : List Prim) : invL (p :: l) = invL l ++ [p.flip] := by simp [invL]
theorem runs_back {l : List Prim} {U : List File} : ∀ {T : List File}, Sor T → Good T → Runs T l U → Runs U (invL l) T := by
  induction l with
  | nil => intro T _ _ h; cases h; exact rfl
  | cons p l ih =>
    rintro T hS hG ⟨M, h1, h2⟩
    rw [invL_cons, runs_app]
    exact ⟨M, ih (ran_sor h1 hS) (by have := rApply_good hG p; rw [h1] at this; exact this) h2, T, ran_back hS hG h1, rfl⟩
end Go.Sx
end
section
set_option linter.unusedVariables false
namespace Go.Proofs.YtmikcpaaomamiaaGreatDoor.X
open Go Go.RowKit Go.Proofs Go.Sx
structure Patch where
  id : Int
  note : ByteArray
  deps : List Int
  l : List Prim
  deriving DecidableEq
instance instRpPatch : Rp Patch where
  Lay := (Option Addr × Nat) × (Option Addr × Nat)
  size := 4
  enc p y := [.int .i64 p.id, .string p.note, .slice y.1.1 p.deps.length y.1.2, .slice y.2.1 p.l.length y.2.2]
  len _ _ := rfl
  one _ _ v hv := by
    simp only [List.mem_cons, List.mem_nil_iff, or_false] at hv
    rcases hv with rfl | rfl | rfl | rfl <;> rfl
  asn p y := [slA y.1.1 p.deps, slA y.2.1 p.l, capA y.2.2 p.l.length]
def Patch.zero : Patch := ⟨0, ⟨#[]⟩, [], []⟩
structure Patch.fit (p : Patch) : Prop where
  nb : p.note.size ≤ 2000000
  dl : p.deps.length ≤ 2000000
  ll : p.l.length ≤ 2000000
  lf : ∀ x ∈ p.l, x.fit
theorem pzero_fit : Patch.zero.fit := ⟨by decide, by decide, by decide, fun x h => by cases h⟩
theorem slA_none {α : Type} [Rp α] (M : Nat → Prop) (w : World) : (slA none ([] : List α)).p M w := by intro j x hj; simp at hj
def depsOk (id : Int) : Int → List Int → Bool
  | _, [] => true
  | last, n :: r => !(decide (n ≤ last) || decide (1000000000 < n) || decide (n = id)) && depsOk id n r
def Patch.right (p : Patch) : Bool := decide (1 ≤ p.id) && decide (p.id ≤ 1000000000) && lineOk p.note && decide (p.deps.length ≤ 8) && depsOk p.id 0 p.deps && decide (1 ≤ p.l.length) && decide (p.l.length ≤ 24) && p.l.all Prim.right
def pmay (p q : Patch) : Bool := p.right && q.right && !decide (p.id = q.id) && !(q.deps.any fun n => decide (n = p.id)) && !(p.deps.any fun n => decide (n = q.id))
def pswap (p q : Patch) : Patch × Patch × Bool := if (pmay p q && (swT p.l q.l).2.2) = true then ({ q with l := (swT p.l q.l).1 }, { p with l := (swT p.l q.l).2.1 }, true) else (Patch.zero, Patch.zero, false)
theorem swT_ok {l m f s : List Prim} (h : (f, s, true) = swT l m) (hl : ∀ x ∈ l, x.fit) (hm : ∀ x ∈ m, x.fit) : f.length = m.length ∧ s.length = l.length ∧ (∀ x ∈ f, x.fit) ∧ ∀ x ∈ s, x.fit := by
  have key : ∀ (j : Nat) (f1 s1 : List Prim), j ≤ l.length → SI l m j f1 s1 → SI l m l.length f s := by
    intro j
    induction hn : l.length - j generalizing j with
    | zero =>
      intro f1 s1 hj hI
      have hjl : j = l.length := by omega
      have := hI.done hjl
      rw [this] at h
      simp only [Prod.mk.injEq, and_true] at h
      obtain ⟨rfl, rfl⟩ := h
      rw [← hjl]; exact hI
    | succ n ih =>
      intro f1 s1 hj hI
      have hk : (l.length - 1 - j) + j + 1 = l.length := by omega
      have hlt : l.length - 1 - j < l.length := by omega
      cases hp : pastT (l[l.length - 1 - j]) f1 with
      | mk f2 r =>
        obtain ⟨q, b⟩ := r
        cases b with
        | true => exact ih (j + 1) (by omega) f2 (q :: s1) (by omega) (hI.step hk hl hp.symm)
        | false =>
          have := hI.stop hk hp.symm
          rw [this] at h
          simp at h
  have hI := key 0 m [] (Nat.zero_le _) (SI.start hm)
  exact ⟨hI.fl, hI.sl, hI.ff, hI.fs⟩
theorem pswap_fit {p q : Patch} (hp : p.fit) (hq : q.fit) : (pswap p q).1.fit ∧ (pswap p q).2.1.fit := by
  unfold pswap
  split
  · rename_i h
    simp only [Bool.and_eq_true] at h
    have hs : ((swT p.l q.l).1, (swT p.l q.l).2.1, true) = swT p.l q.l := by rw [← h.2]
    obtain ⟨h1, h2, h3, h4⟩ := swT_ok hs hp.lf hq.lf
    exact ⟨⟨hq.nb, hq.dl, by dsimp only; rw [h1]; exact hq.ll, h3⟩, ⟨hp.nb, hp.dl, by dsimp only; rw [h2]; exact hp.ll, h4⟩⟩
  · exact ⟨pzero_fit, pzero_fit⟩
def ppastR : List Patch → Patch → List Patch → Option (Patch × List Patch)
  | [], q, rest => some (q, rest)
  | x :: r, q, rest => if (pswap x q).2.2 = true then ppastR r (pswap x q).1 ((pswap x q).2.1 :: rest) else none
def ppast (l : List Patch) (q : Patch) : Patch × List Patch × Bool := match ppastR l.reverse q [] with
  | some r => (r.1, r.2, true)
  | none => (Patch.zero, [], false)
def groupF : List Patch → List Patch → List Patch → List Patch × List Patch
  | [], g, r => (g, r)
  | q :: l, g, r => if (ppast g q).2.2 = true then groupF l (ppast g q).2.1 (r ++ [(ppast g q).1]) else groupF l (g ++ [q]) r
def group : List Patch → List Patch × List Patch
  | [] => ([], [])
  | p :: l => groupF l [p] []
structure PP (l : List Patch) (q0 : Patch) (j : Nat) (q : Patch) (rest : List Patch) : Prop where
  eq : ppastR l.reverse q0 [] = ppastR (l.reverse.drop j) q rest
  len : rest.length = j
  fq : q.fit
  fr : ∀ x ∈ rest, x.fit
theorem PP.start {l : List Patch} {q : Patch} (h : q.fit) : PP l q 0 q [] := ⟨rfl, rfl, h, by simp⟩
theorem PP.step {l rest : List Patch} {q0 q a b : Patch} {j k : Nat} (h : PP l q0 j q rest) (hk : k + j + 1 = l.length) (hl : ∀ x ∈ l, x.fit) (hp : (a, b, true) = pswap l[k] q) : PP l q0 (j + 1) a (b :: rest) := by
  have hf := pswap_fit (hl _ (List.getElem_mem (show k < l.length by omega))) h.fq
  rw [← hp] at hf
  refine ⟨?_, by simp [h.len], hf.1, fun x hx => ?_⟩
  · rw [h.eq, rev_drop hk, ppastR, ← hp]; rfl
  · rcases List.mem_cons.1 hx with rfl | hx
    · exact hf.2
    · exact h.fr x hx
theorem PP.stop {l rest : List Patch} {q0 q a b : Patch} {j k : Nat} (h : PP l q0 j q rest) (hk : k + j + 1 = l.length) (hp : (a, b, false) = pswap l[k] q) : ppast l q0 = (Patch.zero, [], false) := by
  unfold ppast
  rw [h.eq, rev_drop hk, ppastR, ← hp]; rfl
theorem PP.done {l rest : List Patch} {q0 q : Patch} {j : Nat} (h : PP l q0 j q rest) (hj : j = l.length) : ppast l q0 = (q, rest, true) := by
  unfold ppast
  rw [h.eq, List.drop_eq_nil_of_le (by simp; omega), ppastR]
theorem ppast_ok {l rest : List Patch} {q0 q : Patch} (h : (q, rest, true) = ppast l q0) (hl : ∀ x ∈ l, x.fit) (hq : q0.fit) : rest.length = l.length ∧ q.fit ∧ ∀ x ∈ rest, x.fit := by
  have key : ∀ (j : Nat) (q1 : Patch) (r1 : List Patch), j ≤ l.length → PP l q0 j q1 r1 → PP l q0 l.length q rest := by
    intro j
    induction hn : l.length - j generalizing j with
    | zero =>
      intro f1 s1 hj hI
      have hjl : j = l.length := by omega
      have := hI.done hjl
      rw [this] at h
      simp only [Prod.mk.injEq, and_true] at h
      obtain ⟨rfl, rfl⟩ := h
      rw [← hjl]; exact hI
    | succ n ih =>
      intro f1 s1 hj hI
      have hk : (l.length - 1 - j) + j + 1 = l.length := by omega
      have hlt : l.length - 1 - j < l.length := by omega
      cases hp : pswap (l[l.length - 1 - j]) f1 with
      | mk f2 r =>
        obtain ⟨q, b⟩ := r
        cases b with
        | true => exact ih (j + 1) (by omega) f2 (q :: s1) (by omega) (hI.step hk hl hp.symm)
        | false =>
          have := hI.stop hk hp.symm
          rw [this] at h
          simp at h
  have hI := key 0 q0 [] (Nat.zero_le _) (PP.start hq)
  exact ⟨hI.len, hI.fq, hI.fr⟩
structure GI (l : List Patch) (k : Nat) (g r : List Patch) : Prop where
  eq : group l = if k = 0 then group l else groupF (l.drop k) g r
  zero : k = 0 → g = [] ∧ r = []
  len : g.length + r.length = k
  fg : ∀ x ∈ g, x.fit
  fr : ∀ x ∈ r, x.fit
theorem GI.start (l : List Patch) : GI l 0 [] [] := ⟨by simp, fun _ => ⟨rfl, rfl⟩, rfl, by simp, by simp⟩
theorem GI.first {l : List Patch} (h0 : 0 < l.length) (hl : ∀ x ∈ l, x.fit) : GI l 1 [l[0]] [] := by
  refine ⟨?_, fun h => by omega, rfl, fun x hx => ?_, by simp⟩
  · match l, h0 with
    | p :: l, _ => simp [group]
  · simp at hx; subst hx; exact hl _ (List.getElem_mem _)
theorem GI.yes {l g r rest : List Patch} {q : Patch} {k : Nat} (h : GI l k g r) (hk : k < l.length) (h0 : k ≠ 0) (hl : ∀ x ∈ l, x.fit) (hp : (q, rest, true) = ppast g l[k]) : GI l (k + 1) rest (r ++ [q]) := by
  obtain ⟨h1, h2, h3⟩ := ppast_ok hp h.fg (hl _ (List.getElem_mem hk))
  refine ⟨?_, fun h => by omega, by simp [h1]; have := h.len; omega, h3, fun x hx => ?_⟩
  · have := h.eq
    rw [if_neg h0, List.drop_eq_getElem_cons hk, groupF, ← hp] at this
    simpa using this
  · rcases List.mem_append.1 hx with hx | hx
    · exact h.fr x hx
    · simp at hx; subst hx; exact h2
theorem GI.no {l g r rest : List Patch} {q : Patch} {k : Nat} (h : GI l k g r) (hk : k < l.length) (hl : ∀ x ∈ l, x.fit) (hp : k = 0 ∨ (q, rest, false) = ppast g l[k]) : GI l (k + 1) (g ++ [l[k]]) r := by
  by_cases h0 : k = 0
  · subst h0
    obtain ⟨rfl, rfl⟩ := h.zero rfl
    exact GI.first hk hl
  · have hp := hp.resolve_left h0
    refine ⟨?_, fun h => by omega, by simp; have := h.len; omega, fun x hx => ?_, h.fr⟩
    · have := h.eq
      rw [if_neg h0, List.drop_eq_getElem_cons hk, groupF, ← hp] at this
      simpa using this
    · rcases List.mem_append.1 hx with hx | hx
      · exact h.fg x hx
      · simp at hx; subst hx; exact hl _ (List.getElem_mem _)
theorem GI.done {l g r : List Patch} {k : Nat} (h : GI l k g r) (hk : ¬ k < l.length) : group l = (g, r) := by
  by_cases h0 : k = 0
  · subst h0
    have : l = [] := List.eq_nil_of_length_eq_zero (by omega)
    obtain ⟨rfl, rfl⟩ := h.zero rfl
    rw [this]; rfl
  · have := h.eq
    rw [if_neg h0, List.drop_eq_nil_of_le (by omega), groupF] at this
    exact this
end Go.Proofs.YtmikcpaaomamiaaGreatDoor.X
end
section
set_option linter.unusedVariables false
namespace Go.Proofs.YtmikcpaaomamiaaGreatDoor.X
open Go Go.RowKit Go.Proofs Go.Sx
end Go.Proofs.YtmikcpaaomamiaaGreatDoor.X
end
section
set_option linter.unusedVariables false
set_option linter.unusedSimpArgs false
namespace Go.Proofs.YtmikcpaaomamiaaGreatDoor.X
open Go Go.RowKit Go.Proofs Go.Sx
structure Undo (T : List File) (l : List Prim) (k j : Nat) (M N : List File) : Prop where
  done : Runs M ((invL (l.take k)).take j) N
  left : Runs N ((invL (l.take k)).drop j) T
theorem Undo.start {T M : List File} {l : List Prim} {k : Nat} (hS : Sor T) (hG : Go.Sx.Good T) (h : Runs T (l.take k) M) : Undo T l k 0 M M := ⟨rfl, runs_back hS hG h⟩
theorem Undo.step {T M N : List File} {l : List Prim} {k j : Nat} (h : Undo T l k j M N) (hj : j < (invL (l.take k)).length) : Undo T l k (j + 1) M (rApplyT N (invL (l.take k))[j]).1 := by
  have h2 := h.left
  rw [List.drop_eq_getElem_cons hj] at h2
  obtain ⟨K, h3, h4⟩ := h2
  have e : (rApplyT N (invL (l.take k))[j]).1 = K := by unfold Ran at h3; rw [h3]
  rw [e]
  refine ⟨?_, h4⟩
  rw [List.take_succ_eq_append_getElem hj, runs_app]
  exact ⟨N, h.done, K, h3, rfl⟩
theorem Undo.stop {T M N : List File} {l : List Prim} {k j : Nat} (h : Undo T l k j M N) (hj : (invL (l.take k)).length ≤ j) : N = T := by
  have := h.left
  rw [List.drop_eq_nil_of_le hj] at this
  exact this
end Go.Proofs.YtmikcpaaomamiaaGreatDoor.X
end
section
set_option linter.unusedVariables false
set_option linter.unusedSimpArgs false
namespace Go.Sx
open Go Go.RowKit
section
variable {ro : Option Nat} {P : Program} {M0 F0 : Nat → Prop} {w0 : World} {n : Nm} {σ : List (Nat × Value)} {Ξ : List Xsn} {Γ : List Asn}
theorem nilC {α : Type} [Rp α] {a : Act} {w : World} (h : St M0 F0 w0 n σ Ξ Γ a w) : St M0 F0 w0 n σ Ξ (slA (α := α) none [] :: nilA (none, 0) :: capA 0 0 :: Γ) a w := by
  obtain ⟨hs, Fs, hh⟩ := nilSl (α := α) h
  refine ⟨hs, Fs, { hh with ga := fun p hp => ?_ }⟩
  rcases List.mem_cons.1 hp with rfl | hp
  · exact hh.ga _ (by simp)
  · rcases List.mem_cons.1 hp with rfl | hp
    · exact fun _ => rfl
    · rcases List.mem_cons.1 hp with rfl | hp
      · exact Nat.le_refl 0
      · exact hh.ga p (by simp [hp])
end
end Go.Sx
namespace Go.Proofs.YtmikcpaaomamiaaGreatDoor.X
open Go Go.RowKit Go.Proofs Go.Sx
structure Bnd (M : List File) (p : Prim) : Prop where
  so : Sor M
  good : Go.Sx.Good M
  fit : ∀ x ∈ M, x.2.length ≤ 2000000
  b : ∀ u, (getL M u).length + p.new.length ≤ 2000000
  len : M.length ≤ 2000000
end Go.Proofs.YtmikcpaaomamiaaGreatDoor.X
end
section
set_option linter.unusedVariables false
set_option linter.unusedSimpArgs false
namespace Go.Proofs.YtmikcpaaomamiaaGreatDoor.X
open Go Go.RowKit Go.Proofs Go.Sx
open Tryz
attribute [local irreducible] slA isA box row TrL TrC TrN TrA Pu OpR
set_option maxHeartbeats 8000000
theorem inf61 : (Tryz.prog.info? 61).map (fun i => (i.zero, i.size, i.bytes)) = some (some (.agg #[.int .i64 0, .string ⟨#[]⟩, .string ⟨#[]⟩, .int .i64 0, .slice none 0 0, .slice none 0 0]), 6, 96) := by kernel_rfl
end Go.Proofs.YtmikcpaaomamiaaGreatDoor.X
end
section
set_option linter.unusedVariables false
set_option linter.unusedSimpArgs false
namespace Go.Proofs.YtmikcpaaomamiaaGreatDoor.X
open Go Go.RowKit Go.Proofs Go.Sx
attribute [local irreducible] slA isA box row TrL TrC TrN TrA Pu OpR
set_option maxHeartbeats 8000000
end Go.Proofs.YtmikcpaaomamiaaGreatDoor.X
end
section
set_option linter.unusedVariables false
set_option linter.unusedSimpArgs false
namespace Go.Proofs.YtmikcpaaomamiaaGreatDoor.X
open Go Go.RowKit Go.Proofs Go.Sx
open Tryz
attribute [local irreducible] slA isA box row TrL TrC TrN TrA Pu OpR
set_option maxHeartbeats 8000000
set_option maxRecDepth 100000 in
theorem c_lNewC (l : List Prim) (A : Option Addr) (c : Nat) (hl : l.length ≤ 2000000) : Con Tryz.prog 21 [.slice A l.length c] [] [slA A l] (Option Addr × Nat) (fun y => .slice y.1 l.length y.2) (fun _ => []) (fun y => [slA y.1 l, nilA y, capA y.2 l.length]) := by
 refine con func21 rfl ntmps21 rfl ?_
 intro M0 F0 w0
 refine k_ 12 ?_
 refine cmono (fun a w h => nilRow (α := Prim) 39 h) ?_
 refine k_ 7 ?_
 refine cl (ι := {q : Nat × Option Addr × Nat // q.1 ≤ l.length}) (fun i => St M0 F0 w0 18 [(6, .slice A l.length c), (7, .int .i64 (l.length : Int)), (8, .int .i64 (i.1.1 : Int)), (3, .slice i.1.2.1 (l.take i.1.1).length i.1.2.2)] [row 39 (i.1.2.1) (i.1.2.2) (l.take i.1.1)] [slA A l]) (fun i => l.length - i.1.1) ⟨(0, none, 0), Nat.zero_le _⟩ (wk0 Φ Ω) ?_
 rintro ⟨⟨k, A2, c2⟩, hk⟩
 refine cmono (S' := St M0 F0 w0 18 [(6, .slice A l.length c), (7, .int .i64 (l.length : Int)), (8, .int .i64 (k : Int)), (3, .slice A2 (l.take k).length c2)] [row 39 (A2) (c2) (l.take k)] [slA A l]) Ħ ?_
 refine k_ 6 ?_
 refine cc rfl ?_ ?_
 ·
  intro h9
  dsimp only at hk
  try simp only [nrmZ] at h9
  have hk1 : k < l.length := by omega
  refine k_ 5 ?_
  refine elC Θ k (List.getElem?_eq_getElem (l := l) hk1) ?_; rintro zbp zop zyp hAp
  refine cr ?_
  refine ls (op (p_ia k hAp hk1 rfl underlying23 sizeOf61 rfl rfl) rfl) ?_
  refine ls (o_ldj isAgg61 sizeOf61 rfl Θ 0 rfl Δ rfl) ?_
  refine ls (o_alloc zeroValue61 rfl rfl) ?_
  refine le ?_; intro b5
  refine k_ 5 ?_
  refine ls (o_ldw isAgg61 sizeOf61 rfl Θ (by rfl) rfl) ?_
  refine ls (o_bsl [l[k]] underlying29 sizeOf39 zeroValue39 rfl (Enum.t Enum.d) (RV.t zyp rfl Ω RV.d) rfl (by decide) (by decide) rfl) ?_
  refine le ?_; intro b14
  refine lmono (fun a w h => Go.Sx.freeze (i := 0) rfl h) ?_
  refine ls (o_app (is := [1]) underlying29 inf39 rfl (by decide) (by decide) rfl rfl (by rw [List.length_take]; simp only [List.length_cons, List.length_nil]; omega) (fun h => by cases h) rfl Ω rfl) ?_
  refine le ?_; rintro ⟨A3, c3⟩
  rw [← List.take_succ_eq_append_getElem hk1]
  refine k_ 8 ?_
  refine nnext ⟨(k + 1, A3, c3), hk1⟩ (by dsimp only; omega) (wK [0])
 ·
  intro h9
  dsimp only at hk
  try simp only [nrmZ] at h9
  obtain rfl : k = l.length := by omega
  rw [List.take_length]
  refine k_ 6 ?_
  refine cmono (fun a w h => freezeN (i := 0) rfl h) ?_
  refine k_ 7 ?_
  exact rR [] (A2, c2)
set_option maxRecDepth 100000 in
theorem c_lOldC (l : List Prim) (A : Option Addr) (c : Nat) (hl : l.length ≤ 2000000) : Con Tryz.prog 25 [.slice A l.length c] [] [slA A l] (Option Addr × Nat) (fun y => .slice y.1 l.length y.2) (fun _ => []) (fun y => [slA y.1 l, nilA y, capA y.2 l.length]) := by
 refine con func25 rfl ntmps25 rfl ?_
 intro M0 F0 w0
 refine k_ 12 ?_
 refine cmono (fun a w h => nilRow (α := Prim) 61 h) ?_
 refine k_ 7 ?_
 refine cl (ι := {q : Nat × Option Addr × Nat // q.1 ≤ l.length}) (fun i => St M0 F0 w0 18 [(6, .slice A l.length c), (7, .int .i64 (l.length : Int)), (8, .int .i64 (i.1.1 : Int)), (3, .slice i.1.2.1 (l.take i.1.1).length i.1.2.2)] [row 61 (i.1.2.1) (i.1.2.2) (l.take i.1.1)] [slA A l]) (fun i => l.length - i.1.1) ⟨(0, none, 0), Nat.zero_le _⟩ (wk0 Φ Ω) ?_
 rintro ⟨⟨k, A2, c2⟩, hk⟩
 refine cmono (S' := St M0 F0 w0 18 [(6, .slice A l.length c), (7, .int .i64 (l.length : Int)), (8, .int .i64 (k : Int)), (3, .slice A2 (l.take k).length c2)] [row 61 (A2) (c2) (l.take k)] [slA A l]) Ħ ?_
 refine k_ 6 ?_
 refine cc rfl ?_ ?_
 ·
  intro h9
  dsimp only at hk
  try simp only [nrmZ] at h9
  have hk1 : k < l.length := by omega
  refine k_ 5 ?_
  refine elC Θ k (List.getElem?_eq_getElem (l := l) hk1) ?_; rintro zbp zop zyp hAp
  refine cr ?_
  refine ls (op (p_ia k hAp hk1 rfl underlying29 sizeOf39 rfl rfl) rfl) ?_
  refine ls (o_ldj isAgg39 sizeOf39 rfl Θ 0 rfl Δ rfl) ?_
  refine ls (o_alloc zeroValue39 rfl rfl) ?_
  refine le ?_; intro b5
  refine k_ 5 ?_
  refine ls (o_ldw isAgg39 sizeOf39 rfl Θ (by rfl) rfl) ?_
  refine ls (o_bsl [l[k]] underlying23 sizeOf61 zeroValue61 rfl (Enum.t Enum.d) (RV.t zyp rfl Ω RV.d) rfl (by decide) (by decide) rfl) ?_
  refine le ?_; intro b14
  refine lmono (fun a w h => Go.Sx.freeze (i := 0) rfl h) ?_
  refine ls (o_app (is := [1]) underlying23 inf61 rfl (by decide) (by decide) rfl rfl (by rw [List.length_take]; simp only [List.length_cons, List.length_nil]; omega) (fun h => by cases h) rfl Ω rfl) ?_
  refine le ?_; rintro ⟨A3, c3⟩
  rw [← List.take_succ_eq_append_getElem hk1]
  refine k_ 8 ?_
  refine nnext ⟨(k + 1, A3, c3), hk1⟩ (by dsimp only; omega) (wK [0])
 ·
  intro h9
  dsimp only at hk
  try simp only [nrmZ] at h9
  obtain rfl : k = l.length := by omega
  rw [List.take_length]
  refine k_ 6 ?_
  refine cmono (fun a w h => freezeN (i := 0) rfl h) ?_
  refine k_ 7 ?_
  exact rR [] (A2, c2)
end Go.Proofs.YtmikcpaaomamiaaGreatDoor.X
end
section
set_option linter.unusedVariables false
set_option linter.unusedSimpArgs false
namespace Go.Proofs.YtmikcpaaomamiaaGreatDoor.X
open Go Go.RowKit Go.Proofs Go.Sx
open Tryz
attribute [local irreducible] slA isA box row TrL TrC TrN TrA Pu OpR
set_option maxHeartbeats 8000000
theorem inf3 : (Tryz.prog.info? 3).map (fun i => (i.zero, i.size, i.bytes)) = some (some (.int .i64 0), 1, 8) := by kernel_rfl
set_option maxRecDepth 100000 in
theorem c_EqualI (l m : List Int) (A B : Option Addr) (c c' : Nat) (hl : l.length ≤ 2000000) : Con Tryz.prog 29 [.slice A l.length c, .slice B m.length c'] [] [slA A l, slA B m] Unit (fun _ => .bool (decide (l = m))) (fun _ => []) (fun _ => []) := by
 refine con func29 rfl ntmps29 rfl ?_
 intro M0 F0 w0
 refine k_ 15 ?_
 refine cc rfl ?_ ?_
 ·
  intro h10
  try simp only [nrmZ] at h10
  refine k_ 7 ?_
  refine rret (is := []) () (Or.inl rfl) (Res.t rfl Res.d) ?_ rfl Ω
  simp [packV]; intro e; rw [e] at h10; exact h10 rfl
 ·
  intro h10
  try simp only [nrmZ] at h10
  refine k_ 11 ?_
  refine cl (ι := {k : Nat // k ≤ l.length ∧ l.take k = m.take k}) (fun i => St M0 F0 w0 26 [(0, .slice A l.length c), (1, .slice B m.length c'), (12, .int .i64 (l.length : Int)), (13, .int .i64 (i.1 : Int))] [] [slA A l, slA B m]) (fun i => l.length - i.1) ⟨0, by simp⟩ (wk0 Φ Ω) ?_
  rintro ⟨k, hk, hkk⟩
  refine cmono (S' := St M0 F0 w0 26 [(0, .slice A l.length c), (1, .slice B m.length c'), (12, .int .i64 (l.length : Int)), (13, .int .i64 (k : Int))] [] [slA A l, slA B m]) Ħ ?_
  refine k_ 6 ?_
  refine cc rfl ?_ ?_
  ·
   intro h14
   try simp only [nrmZ] at h14
   have hk1 : k < l.length := by omega
   have hk2 : k < m.length := by omega
   refine k_ 11 ?_
   refine elC Θ k (List.getElem?_eq_getElem (l := l) hk1) ?_; rintro zbp zop zyp hAp
   refine elC Θ k (List.getElem?_eq_getElem (l := m) hk2) ?_; rintro zbq zoq zyq hAq
   refine cd [] [(3, zbp, zop + k * Rp.size Int, _), (7, zbq, zoq + k * Rp.size Int, _)] TryzX.mixed (TOk.t (isInS Θ (k := 0) rfl (z := 1) Δ) (TOk.t (isInS Θ (k := 0) rfl (z := 1) Δ) TOk.d)) ?_
   refine u_ 0 2 ?_
   refine tk 2 rfl Ψ Υ gnone (TTany _) (p_ia k hAp hk1 rfl underlying22 sizeOf3 rfl rfl) rfl ?_
   refine u_ 3 3 ?_
   refine tk 6 rfl Ψ Υ gnone (TTany _) (p_ia k hAq hk2 rfl underlying22 sizeOf3 rfl rfl) rfl ?_
   refine u_ 7 2 ?_
   refine dn Ψ ?_
   refine k_ 1 ?_
   refine cc rfl ?_ ?_
   ·
    intro h24
    try simp only [nrmZ] at h24
    refine k_ 7 ?_
    refine rret (is := []) () (Or.inl rfl) (Res.t rfl Res.d) ?_ rfl Ω
    simp [packV]; rintro rfl; exact h24 rfl
   ·
    intro h24
    try simp only [nrmZ] at h24
    refine k_ 7 ?_
    refine nnext ⟨k + 1, hk1, by rw [List.take_succ_eq_append_getElem hk1, List.take_succ_eq_append_getElem hk2, hkk, h24]⟩ (by dsimp only; omega) (wk0 Φ Ω)
  ·
   intro h14
   try simp only [nrmZ] at h14
   refine k_ 12 ?_
   refine rret (is := []) () (Or.inl rfl) (Res.t rfl Res.d) ?_ rfl Ω
   simp [packV]; have := List.take_of_length_le (l := l) (i := k) (by omega); have := List.take_of_length_le (l := m) (i := k) (by omega); simp_all
set_option maxRecDepth 100000 in
theorem c_IndexI (l : List Int) (A : Option Addr) (c : Nat) (hl : l.length ≤ 2000000) (v : Int) : Con Tryz.prog 36 [.slice A l.length c, .int .i64 v] [] [slA A l] {r : Int // -1 ≤ r ∧ r ≤ 2000000 ∧ (0 ≤ r ↔ v ∈ l)} (fun r => .int .i64 r.1) (fun _ => []) (fun _ => []) := by
 refine con func36 rfl ntmps36 rfl ?_
 intro M0 F0 w0
 refine k_ 14 ?_
 refine cl (ι := {k : Nat // k ≤ l.length ∧ v ∉ l.take k}) (fun i => St M0 F0 w0 19 [(0, .slice A l.length c), (1, .int .i64 v), (7, .int .i64 (l.length : Int)), (8, .int .i64 (i.1 : Int))] [] [slA A l]) (fun i => l.length - i.1) ⟨0, by simp⟩ (wk0 Φ Ω) ?_
 rintro ⟨k, hk, hkk⟩
 refine cmono (S' := St M0 F0 w0 19 [(0, .slice A l.length c), (1, .int .i64 v), (7, .int .i64 (l.length : Int)), (8, .int .i64 (k : Int))] [] [slA A l]) Ħ ?_
 refine k_ 6 ?_
 refine cc rfl ?_ ?_
 ·
  intro h9
  try simp only [nrmZ] at h9
  have hk1 : k < l.length := by omega
  refine k_ 11 ?_
  refine elC Θ k (List.getElem?_eq_getElem (l := l) hk1) ?_; rintro zbp zop zyp hAp
  refine k_ 4 ?_
  refine ls (op (p_ia k hAp hk1 rfl underlying22 sizeOf3 rfl rfl) rfl) ?_
  refine ls (o_ldi isAgg3 rfl Θ 0 rfl Δ rfl) ?_
  refine k_ 3 ?_
  refine cc rfl ?_ ?_
  ·
   intro h16
   try simp only [nrmZ] at h16
   refine k_ 8 ?_
   exact rR [] ⟨(k : Int), by omega, by omega, ⟨fun _ => h16 ▸ List.getElem_mem hk1, fun _ => by omega⟩⟩
  ·
   intro h16
   try simp only [nrmZ] at h16
   refine k_ 7 ?_
   refine nnext ⟨k + 1, hk1, by rw [List.take_succ_eq_append_getElem hk1, List.mem_append]; simp [h16, hkk]⟩ (by dsimp only; omega) (wk0 Φ Ω)
 ·
  intro h9
  try simp only [nrmZ] at h9
  refine k_ 12 ?_
  exact rR [] ⟨-1, by omega, by omega, by rw [List.take_of_length_le (by omega)] at hkk; simp [hkk]⟩
set_option maxRecDepth 100000 in
theorem c_ContainsI (l : List Int) (A : Option Addr) (c : Nat) (hl : l.length ≤ 2000000) (v : Int) : Con Tryz.prog 22 [.slice A l.length c, .int .i64 v] [] [slA A l] Unit (fun _ => .bool (l.any fun s => decide (s = v))) (fun _ => []) (fun _ => []) := by
 refine con func22 rfl ntmps22 rfl ?_
 intro M0 F0 w0
 refine k_ 9 ?_
 refine lC [] call36 (c_IndexI l A c hl v) ?_; rintro ⟨r, hr1, hr2, hr3⟩
 refine k_ 6 ?_
 refine rret (is := []) () (Or.inl rfl) (Res.t rfl Res.d) ?_ rfl Ω
 simp [packV]; rw [Bool.eq_iff_iff]; simp [hr3]
set_option maxRecDepth 100000 in
theorem c_with (p : Patch) (y : Rp.Lay Patch) (hp : p.fit) (l : List Prim) (A : Option Addr) (c : Nat) (hl : l.length ≤ 2000000) (hf : ∀ x ∈ l, x.fit) : Con Tryz.prog 20 [sv p y, .slice A l.length c] [] [slA y.1.1 p.deps, slA y.2.1 p.l, capA y.2.2 p.l.length, slA A l] (Rp.Lay Patch) (fun y' => sv { p with l := l } y') (fun _ => []) (fun y' => [slA y'.1.1 p.deps, slA y'.2.1 l, capA y'.2.2 l.length]) := by
 refine con func20 rfl ntmps20 rfl ?_
 intro M0 F0 w0
 refine k_ 2 ?_
 refine ls (o_box rfl rfl rfl) ?_
 refine le ?_; intro b2
 refine ls (o_alloc zeroValue31 rfl rfl) ?_
 refine le ?_; intro b4
 refine k_ 3 ?_
 have hdl := hp.dl
 refine k_ 4 ?_
 refine ls (o_mk (0 : Int) () p.deps.length underlying22 inf3 rfl (by decide) (fun _ _ p hp => by cases hp) rfl rfl rfl rfl (by omega) (by omega) rfl) ?_
 refine le ?_; intro b11
 refine k_ 8 ?_
 refine ls (o_cpy underlying22 Ψ rfl rfl (by simp) Θ Θ Ω rfl) ?_
 rw [List.length_replicate]
 refine k_ 3 ?_
 refine cmono (fun a w h => Go.Sx.freeze (i := 0) rfl h) ?_
 refine cmono (fun a w h => nilRow (α := Prim) 39 h) ?_
 refine k_ 17 ?_
 refine cl (ι := {q : Nat × Option Addr × Nat // q.1 ≤ l.length}) (fun i => St M0 F0 w0 34 [(2, .pointer (some ⟨b2, 0, none⟩)), (4, .pointer (some ⟨b4, 0, none⟩)), (19, .slice A l.length c), (20, .int .i64 (l.length : Int)), (21, .int .i64 (i.1.1 : Int))] [row 39 (i.1.2.1) (i.1.2.2) (l.take i.1.1), box b2 31 [.int .i64 p.id, .string p.note, .slice (some ⟨b11, 0, none⟩) p.deps.length p.deps.length, .slice i.1.2.1 (l.take i.1.1).length i.1.2.2], box b4 31 (Rp.enc Patch.zero ((none, 0), (none, 0)))] [slA (some ⟨b11, 0, none⟩) p.deps, slA A l]) (fun i => l.length - i.1.1) ⟨(0, none, 0), Nat.zero_le _⟩ (wK [0, 1, 0]) ?_
 rintro ⟨⟨k, A2, c2⟩, hk⟩
 refine cmono (S' := St M0 F0 w0 34 [(2, .pointer (some ⟨b2, 0, none⟩)), (4, .pointer (some ⟨b4, 0, none⟩)), (19, .slice A l.length c), (20, .int .i64 (l.length : Int)), (21, .int .i64 (k : Int))] [row 39 (A2) (c2) (l.take k), box b2 31 [.int .i64 p.id, .string p.note, .slice (some ⟨b11, 0, none⟩) p.deps.length p.deps.length, .slice A2 (l.take k).length c2], box b4 31 (Rp.enc Patch.zero ((none, 0), (none, 0)))] [slA (some ⟨b11, 0, none⟩) p.deps, slA A l]) Ħ ?_
 refine k_ 6 ?_
 refine cc rfl ?_ ?_
 ·
  intro h22
  dsimp only at hk
  try simp only [nrmZ] at h22
  have hk1 : k < l.length := by omega
  refine k_ 5 ?_
  refine elC Θ k (List.getElem?_eq_getElem (l := l) hk1) ?_; rintro zbp zop zyp hAp
  refine cr ?_
  refine ls (op (p_ia k hAp hk1 rfl underlying29 sizeOf39 rfl rfl) rfl) ?_
  refine ls (o_ldj isAgg39 sizeOf39 rfl Θ 0 rfl Δ rfl) ?_
  refine ls (o_alloc zeroValue39 rfl rfl) ?_
  refine le ?_; intro b7
  refine k_ 3 ?_
  refine cd [3, 4, 5, 7] [(1, b2, 3, _), (2, b7, 0, _)] TryzX.mixed (TOk.t (isBoxS Θ (k := 1) Δ) (TOk.t (isBoxS Θ (k := 6) Δ) TOk.d)) ?_
  refine u_ 0 3 ?_
  refine df 3 Ψ ?_
  refine doR rfl (o_call (is := []) call35 (c_primClone l[k] zyp (hf _ (List.getElem_mem hk1))) rfl rfl Ω rfl) (TOk.t (isBoxE fun _ => isBoxS Θ (k := 1) Δ) (TOk.x Ψ TOk.d)) ?_
  refine ea ?_; intro y28
  refine df 4 Ψ ?_
  refine doR rfl (o_bsl [l[k]] underlying29 sizeOf39 zeroValue39 rfl (Enum.t Enum.d) (RV.t y28 rfl Ω RV.d) rfl (by decide) (by decide) rfl) (TOk.t (isBoxE fun _ => isBoxS Θ (k := 1) Δ) (TOk.x Ψ TOk.d)) ?_
  refine ea ?_; intro b29
  refine amono (fun a w h => Go.Sx.freeze (i := 0) rfl h) ?_
  refine df 5 Ψ ?_
  refine doR rfl (o_app (is := [1]) underlying29 inf39 rfl (by decide) (by decide) rfl rfl (by rw [List.length_take]; simp only [List.length_cons, List.length_nil]; omega) (fun h => by cases h) rfl Ω rfl) tX ?_
  refine ea ?_; rintro ⟨A3, c3⟩
  rw [← List.take_succ_eq_append_getElem hk1]
  refine u_ 6 1 ?_
  refine df 7 Ψ ?_
  refine doR rfl (o_st rfl sizeOf29 rfl rfl rfl rfl rfl Θ Θ Θ) tX ?_
  refine dn Ψ ?_
  refine k_ 6 ?_
  refine nnext ⟨(k + 1, A3, c3), hk1⟩ (by dsimp only; omega) (wK [0, 1, 1])
 ·
  intro h22
  dsimp only at hk
  try simp only [nrmZ] at h22
  obtain rfl : k = l.length := by omega
  rw [List.take_length]
  refine k_ 6 ?_
  refine cmono (fun a w h => freezeN (i := 0) rfl h) ?_
  refine cr ?_
  refine ls (o_ldw isAgg31 sizeOf31 rfl Θ (by rfl) rfl) ?_
  refine k_ 5 ?_
  refine rret (is := []) ((some ⟨b11, 0, none⟩, p.deps.length), (A2, c2)) (Or.inl rfl) (Res.c rfl isAgg31 sizeOf31 Θ (by rfl) Res.d) (rfl) rfl Ω
set_option maxRecDepth 100000 in
theorem c_nClone (p : Patch) (y : Rp.Lay Patch) (hp : p.fit) : Con Tryz.prog 7 [sv p y] [] [slA y.1.1 p.deps, slA y.2.1 p.l, capA y.2.2 p.l.length] (Rp.Lay Patch) (fun y' => sv p y') (fun _ => []) (fun y' => [slA y'.1.1 p.deps, slA y'.2.1 p.l, capA y'.2.2 p.l.length]) := by
 refine con func7 rfl ntmps7 rfl ?_
 intro M0 F0 w0
 refine k_ 2 ?_
 refine ls (o_box rfl rfl rfl) ?_
 refine le ?_; intro b1
 refine ls (o_alloc zeroValue31 rfl rfl) ?_
 refine le ?_; intro b2
 refine k_ 4 ?_
 refine ls (o_ldw isAgg31 sizeOf31 rfl Θ (by rfl) rfl) ?_
 refine k_ 2 ?_
 refine lC [] call20 (c_with p y hp p.l y.2.1 y.2.2 hp.ll hp.lf) ?_; intro y6
 refine k_ 5 ?_
 refine rret (is := []) y6 (Or.inl rfl) (Res.c rfl isAgg31 sizeOf31 Θ (by rfl) Res.d) (rfl) rfl Ω
set_option maxRecDepth 100000 in
theorem c_New7 (p : Patch) (y : Rp.Lay Patch) (hp : p.fit) : Con Tryz.prog 8 [sv p y] [] [slA y.1.1 p.deps, slA y.2.1 p.l, capA y.2.2 p.l.length] (Rp.Lay Patch) (fun y' => sv p y') (fun _ => []) (fun y' => [slA y'.1.1 p.deps, slA y'.2.1 p.l, capA y'.2.2 p.l.length]) := by
 refine con func8 rfl ntmps8 rfl ?_
 intro M0 F0 w0
 refine k_ 2 ?_
 refine ls (o_box rfl rfl rfl) ?_
 refine le ?_; intro b1
 refine ls (o_alloc zeroValue31 rfl rfl) ?_
 refine le ?_; intro b2
 refine k_ 3 ?_
 refine cd [8, 10] [(1, b1, 0, _), (3, b1, 1, _), (5, b1, 2, _), (7, b1, 3, _)] TryzX.mixed (TOk.t (isBoxS Θ (k := 1) Δ) (TOk.t (isBoxS Θ (k := 1) Δ) (TOk.t (isBoxS Θ (k := 1) Δ) (TOk.t (isBoxS Θ (k := 1) Δ) TOk.d)))) ?_
 refine u_ 0 8 ?_
 refine df 8 Ψ ?_
 refine doR rfl (o_call (is := []) call21 (c_lNewC p.l y.2.1 y.2.2 hp.ll) rfl rfl Ω rfl) (TOk.t (isBoxE fun _ => isBoxS Θ (k := 1) Δ) (TOk.t (isBoxE fun _ => isBoxS Θ (k := 1) Δ) (TOk.t (isBoxE fun _ => isBoxS Θ (k := 1) Δ) (TOk.x Ψ TOk.d)))) ?_
 refine ea ?_; intro y11
 refine u_ 9 1 ?_
 refine df 10 Ψ ?_
 refine doR rfl (o_st rfl sizeOf31 rfl rfl rfl rfl rfl Θ Θ Θ) tX ?_
 refine dn Ψ ?_
 refine k_ 3 ?_
 refine rret (is := []) (y.1, y11) (Or.inl rfl) (Res.c rfl isAgg31 sizeOf31 Θ (by rfl) Res.d) (rfl) rfl Ω
set_option maxRecDepth 100000 in
theorem c_Old7 (p : Patch) (y : Rp.Lay Patch) (hp : p.fit) : Con Tryz.prog 11 [sv p y] [] [slA y.1.1 p.deps, slA y.2.1 p.l, capA y.2.2 p.l.length] (Rp.Lay Patch) (fun y' => sv p y') (fun _ => []) (fun y' => [slA y'.1.1 p.deps, slA y'.2.1 p.l, capA y'.2.2 p.l.length]) := by
 refine con func11 rfl ntmps11 rfl ?_
 intro M0 F0 w0
 refine k_ 2 ?_
 refine ls (o_box rfl rfl rfl) ?_
 refine le ?_; intro b1
 refine ls (o_alloc zeroValue25 rfl rfl) ?_
 refine le ?_; intro b2
 refine k_ 3 ?_
 refine cd [8, 10] [(1, b1, 0, _), (3, b1, 1, _), (5, b1, 2, _), (7, b1, 3, _)] TryzX.mixed (TOk.t (isBoxS Θ (k := 1) Δ) (TOk.t (isBoxS Θ (k := 1) Δ) (TOk.t (isBoxS Θ (k := 1) Δ) (TOk.t (isBoxS Θ (k := 1) Δ) TOk.d)))) ?_
 refine u_ 0 8 ?_
 refine df 8 Ψ ?_
 refine doR rfl (o_call (is := []) call25 (c_lOldC p.l y.2.1 y.2.2 hp.ll) rfl rfl Ω rfl) (TOk.t (isBoxE fun _ => isBoxS Θ (k := 1) Δ) (TOk.t (isBoxE fun _ => isBoxS Θ (k := 1) Δ) (TOk.t (isBoxE fun _ => isBoxS Θ (k := 1) Δ) (TOk.x Ψ TOk.d)))) ?_
 refine ea ?_; intro y11
 refine u_ 9 1 ?_
 refine df 10 Ψ ?_
 refine doR rfl (o_st rfl sizeOf25 rfl rfl rfl rfl rfl Θ Θ Θ) tX ?_
 refine dn Ψ ?_
 refine k_ 3 ?_
 refine rret (is := []) (y.1, y11) (Or.inl rfl) (Res.c rfl isAgg25 sizeOf25 Θ (by rfl) Res.d) (rfl) rfl Ω
end Go.Proofs.YtmikcpaaomamiaaGreatDoor.X
end
