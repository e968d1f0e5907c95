/- OWN WORK: a part of the proof of a law of the seat YtdbiillompeclaaGreatDoor: what comes in, opened. -/
import Derived.Test.YtdbiillompeclaaGreatDoorXDef
import Derived.Lib.SmallJoins
import Derived.SliceStrings
import Derived.ChangeSame
import Derived.Carry
import Derived.ChangeOld
import Derived.DataReads
import Derived.Test.YtdbiillompeclaaGreatDoorXMp
section
set_option linter.unusedVariables false
set_option linter.unusedSimpArgs false
namespace Go.Sx
open Go Go.RowKit Go.Proofs Go.Joins Go.ChangeShapes Go.WideShapes Go.Deep
/-- what comes in is bounded by its bulk: how much a datum weighs, for any such reckoning -/
structure Bulk (H : Type) where
  one : DataW H → Nat
  all : List (DataW H) → Nat
  nil : all [] = 0
  cons : ∀ d r, all (d :: r) = one d + all r
  str : ∀ s, one (.lit (.string s)) = s.length + 1
  slc : ∀ e s, one (.slice e s) = all e + all s + 1
  agg : ∀ l, one (.agg l) = all l + 1
section
variable {H : Type} {enc : TypeId × Value → H} {P : Program} {w : World}
theorem cell_lit {a : Addr} {v : Value} {j : Nat} (h : w.cell? (a.add j) = some v) (h0 : ∃ u, w.cell? (a.add 0) = some u) : ∃ b o, a = ⟨b, o, none⟩ ∧ b < w.heap.size ∧ w.cell? ⟨b, o + j, none⟩ = some v := by
  obtain ⟨b, o, sp⟩ := a
  obtain ⟨u, hu⟩ := h0
  have hsp : sp = none := by
    cases sp with
    | none => rfl
    | some z =>
      simp only [Addr.add, if_true, World.cell?] at hu
      split at hu <;> simp at hu
  subst hsp
  refine ⟨b, o, rfl, ?_, ?_⟩
  · simp only [Addr.add, if_true, World.cell?] at hu
    cases hb : w.heap[b]? with
    | none => simp [hb] at hu
    | some x => exact (Array.getElem?_eq_some_iff.1 hb).1
  · rw [Addr.add_lit] at h
    exact h
/-- a row of texts that came in -/
theorem open_strs {t e : TypeId} {fuel : Nat} {v : Value} {x : DataW H × List MemPlace} (B : Bulk H) (ht : P.underlying t = some (.slice e)) (he : P.underlying e = some .string) (hc : P.cellsOf e = 1)
    (h : DataW.trod enc P w 0 (fun _ => true) true fuel t [v] = some x) :
    ∃ (l : List ByteArray) (y : Option Addr × Nat), v = .slice y.1 l.length y.2 ∧ (slA y.1 l).p (fun _ => False) w ∧ (x.1 = .nil ∨ l.length + sizes l ≤ B.one x.1) ∧ (x.1 = .nil → l = []) := by
  rcases open_strings ht he hc h with ⟨hcs, hx⟩ | ⟨a, len, cap, ss, hcs, _, hl, hm, hz, hx, hcell, hws⟩
  · cases hcs
    exact ⟨[], (none, 0), rfl, (fun j x hj => by simp at hj), .inl (by rw [hx]), fun _ => rfl⟩
  · cases hcs
    simp only [if_true] at hz
    have hlen : (ss.take len).length = len := by rw [List.length_take]; omega
    refine ⟨ss.take len, (some a, cap), by rw [hlen], ?_, .inr ?_, fun h => by rw [hx] at h; cases h⟩
    · intro j s hj
      have hjl : j < len := by have := (List.getElem?_eq_some_iff.1 hj).1; omega
      have hjs : ss[j]? = some s := by rw [List.getElem?_take_of_lt hjl] at hj; exact hj
      have hcj := hcell j (by omega)
      rw [List.getD_eq_getElem?_getD, hjs] at hcj
      obtain ⟨b, o, rfl, hb, hc2⟩ := cell_lit hcj ⟨_, hcell 0 (by omega)⟩
      refine ⟨b, o, (), rfl, id, hb, fun i v hi => ?_, (fun p hp => by cases hp)⟩
      have hi0 : i = 0 := by
        have := (List.getElem?_eq_some_iff.1 hi).1
        have e : (Rp.enc s ()).length = 1 := rfl
        omega
      subst hi0
      have hv : v = .string s := by
        have : (Rp.enc s ())[0]? = some (Value.string s) := rfl
        rw [this] at hi; cases hi; rfl
      subst hv
      show w.cell? ⟨b, o + j * 1 + 0, none⟩ = _
      rw [Nat.mul_one, Nat.add_zero]
      exact hc2
    · rw [hx]
      simp only
      rw [B.slc]
      have : ∀ (l : List ByteArray), l.length + sizes l ≤ B.all (strs l) := by
        intro l
        induction l with
        | nil => simp [sizes]
        | cons s l ih =>
          have e : (strs (s :: l) : List (DataW H)) = .lit (.string s.data.toList) :: strs l := rfl
          rw [e, B.cons, B.str]
          have e2 : s.data.toList.length = s.size := by rw [Array.length_toList]; rfl
          simp only [sizes, List.map_cons, List.sum_cons, List.length_cons] at ih ⊢
          omega
      have := this (ss.take len)
      omega
theorem open_prim_at {t : TypeId} {f0 f1 f2 f3 f4 f5 : Field} {cs : List Value} {fuel : Nat} {x : DataW H × List MemPlace} (B : Bulk H) (hs : P.underlying t = some (.struct #[f0, f1, f2, f3, f4, f5])) (hone : oneCellFields P #[f0, f1, f2, f3, f4, f5] = true) (hC : P.cellsOf t = 6)
    {e : TypeId} (h0 : P.underlying f0.type = some (.int .i64)) (h1 : P.underlying f1.type = some .string) (h2 : P.underlying f2.type = some .string) (h3 : P.underlying f3.type = some (.int .i64)) (h4 : P.underlying f4.type = some (.slice e)) (h5 : P.underlying f5.type = some (.slice e)) (he : P.underlying e = some .string) (hc : P.cellsOf e = 1)
    (hf : DataW.trod enc P w 0 (fun _ => true) true fuel t cs = some x) :
    ∃ (z : Prim) (y : Rp.Lay Prim), cs = Rp.enc z y ∧ (∀ a ∈ Rp.asn z y, a.p (fun _ => False) w) ∧ z.many + 1 ≤ B.one x.1 := by
  obtain ⟨xs, n, _, hx, hsz, hlen, hg⟩ := DataW.trod_struct hs hf
  match cs, hsz.trans hC with
  | [c0, c1, c2, c3, c4, c5], _ =>
    obtain ⟨o0, k0⟩ := hone_of hone 0 f0 rfl
    obtain ⟨o1, k1⟩ := hone_of hone 1 f1 rfl
    obtain ⟨o2, k2⟩ := hone_of hone 2 f2 rfl
    obtain ⟨o3, k3⟩ := hone_of hone 3 f3 rfl
    obtain ⟨o4, k4⟩ := hone_of hone 4 f4 rfl
    obtain ⟨o5, k5⟩ := hone_of hone 5 f5 rfl
    match xs, hlen with
    | [y0, y1, y2, y3, y4, y5], _ =>
      subst hx
      have g0 : DataW.trod enc P w 0 (fun _ => true) true n f0.type [c0] = some y0 := by simpa [o0, k0] using hg 0 f0 rfl
      have g1 : DataW.trod enc P w 0 (fun _ => true) true n f1.type [c1] = some y1 := by simpa [o1, k1] using hg 1 f1 rfl
      have g2 : DataW.trod enc P w 0 (fun _ => true) true n f2.type [c2] = some y2 := by simpa [o2, k2] using hg 2 f2 rfl
      have g3 : DataW.trod enc P w 0 (fun _ => true) true n f3.type [c3] = some y3 := by simpa [o3, k3] using hg 3 f3 rfl
      have g4 : DataW.trod enc P w 0 (fun _ => true) true n f4.type [c4] = some y4 := by simpa [o4, k4] using hg 4 f4 rfl
      have g5 : DataW.trod enc P w 0 (fun _ => true) true n f5.type [c5] = some y5 := by simpa [o5, k5] using hg 5 f5 rfl
      obtain ⟨z0, q0, e0, _⟩ := DataW.trod_int h0 g0
      obtain ⟨s1, q1, e1, _⟩ := DataW.trod_string h1 g1
      obtain ⟨s2, q2, e2, _⟩ := DataW.trod_string h2 g2
      obtain ⟨z3, q3, e3, _⟩ := DataW.trod_int h3 g3
      obtain ⟨l4, u4, q4, a4, b4, n4⟩ := open_strs B h4 he hc g4
      obtain ⟨l5, u5, q5, a5, b5, n5⟩ := open_strs B h5 he hc g5
      cases q0; cases q1; cases q2; cases q3; subst q4; subst q5
      refine ⟨⟨z0, s1, s2, z3, l4, l5⟩, (u4, u5), rfl, ?_, ?_⟩
      · intro a ha
        have ha' : a = slA u4.1 l4 ∨ a = slA u5.1 l5 := by simpa [Rp.asn] using ha
        rcases ha' with rfl | rfl
        · exact a4
        · exact a5
      · simp only [List.map_cons, List.map_nil]
        rw [B.agg]
        simp only [B.cons, B.nil]
        rw [e1, e2]
        simp only [B.str]
        have e7 : s1.data.toList.length = s1.size := by rw [Array.length_toList]; rfl
        have e8 : s2.data.toList.length = s2.size := by rw [Array.length_toList]; rfl
        have m4 : l4.length + sizes l4 ≤ B.one y4.1 := by
          rcases b4 with h | h
          · rw [n4 h]; simp [sizes]
          · exact h
        have m5 : l5.length + sizes l5 ≤ B.one y5.1 := by
          rcases b5 with h | h
          · rw [n5 h]; simp [sizes]
          · exact h
        simp only [Prim.many]
        omega
theorem open_prim {r : Reach} {b0 : Nat} {t : TypeId} {f0 f1 f2 f3 f4 f5 : Field} {v : Value} {d : DataW H} {p : List MemPlace} (B : Bulk H) (hs : P.underlying t = some (.struct #[f0, f1, f2, f3, f4, f5])) (hone : oneCellFields P #[f0, f1, f2, f3, f4, f5] = true) (hC : P.cellsOf t = 6)
    {e : TypeId} (h0 : P.underlying f0.type = some (.int .i64)) (h1 : P.underlying f1.type = some .string) (h2 : P.underlying f2.type = some .string) (h3 : P.underlying f3.type = some (.int .i64)) (h4 : P.underlying f4.type = some (.slice e)) (h5 : P.underlying f5.type = some (.slice e)) (he : P.underlying e = some .string) (hc : P.cellsOf e = 1)
    (hv : Value.okWide P w r b0 t v) (h : DataW.Trod enc P w 0 (fun _ => true) true t v d p) :
    ∃ (x : Prim) (y : Rp.Lay Prim), v = sv x y ∧ (∀ a ∈ Rp.asn x y, a.p (fun _ => False) w) ∧ x.many ≤ B.one d := by
  obtain ⟨cs, rfl, hsz⟩ := okWide_struct hs hv
  obtain ⟨fuel, hf⟩ := h
  obtain ⟨z, y, e1, e2, e3⟩ := open_prim_at B hs hone hC h0 h1 h2 h3 h4 h5 he hc hf
  refine ⟨z, y, ?_, e2, Nat.le_of_succ_le e3⟩
  have e4 : cs.toList = Rp.enc z y := e1
  show Value.agg cs = Value.agg (Rp.enc z y).toArray
  rw [← e4]
/-- three of them -/
theorem open_prim3 {r : Reach} {b0 : Nat} {ta t : TypeId} {f0 f1 f2 f3 f4 f5 : Field} {v : Value} {d : DataW H} {p : List MemPlace} (B : Bulk H) (hta : P.underlying ta = some (.array 3 t)) (hs : P.underlying t = some (.struct #[f0, f1, f2, f3, f4, f5])) (hone : oneCellFields P #[f0, f1, f2, f3, f4, f5] = true) (hC : P.cellsOf t = 6) (hCa : P.cellsOf ta = 18)
    {e : TypeId} (h0 : P.underlying f0.type = some (.int .i64)) (h1 : P.underlying f1.type = some .string) (h2 : P.underlying f2.type = some .string) (h3 : P.underlying f3.type = some (.int .i64)) (h4 : P.underlying f4.type = some (.slice e)) (h5 : P.underlying f5.type = some (.slice e)) (he : P.underlying e = some .string) (hc : P.cellsOf e = 1)
    (hv : Value.okWide P w r b0 ta v) (h : DataW.Trod enc P w 0 (fun _ => true) true ta v d p) :
    ∃ (z1 z2 z3 : Prim) (y1 y2 y3 : Rp.Lay Prim), v = .agg (Rp.enc z1 y1 ++ (Rp.enc z2 y2 ++ Rp.enc z3 y3)).toArray ∧ (∀ a ∈ Rp.asn z1 y1 ++ (Rp.asn z2 y2 ++ Rp.asn z3 y3), a.p (fun _ => False) w) ∧ z1.many + z2.many + z3.many ≤ B.one d := by
  have hag : ∃ cs, v = .agg cs := by
    simp only [Value.okWide, hta] at hv
    obtain ⟨cs, h1, _⟩ := hv
    exact ⟨cs, h1⟩
  obtain ⟨cs, rfl⟩ := hag
  obtain ⟨fuel, hf⟩ := h
  obtain ⟨xs, n, _, hx, hsz, hlen, hg⟩ := DataW.trod_array hta hf
  have hsz' : cs.toList.length = 18 := by
    have : (Value.agg cs).cells.toList.length = P.cellsOf ta := hsz
    rw [hCa] at this
    exact this
  match xs, hlen with
  | [x1, x2, x3], _ =>
    have g1 := hg 0 (by decide)
    have g2 := hg 1 (by decide)
    have g3 := hg 2 (by decide)
    rw [hC] at g1 g2 g3
    obtain ⟨z1, y1, a1, b1, c1⟩ := open_prim_at B hs hone hC h0 h1 h2 h3 h4 h5 he hc g1
    obtain ⟨z2, y2, a2, b2, c2⟩ := open_prim_at B hs hone hC h0 h1 h2 h3 h4 h5 he hc g2
    obtain ⟨z3, y3, a3, b3, c3⟩ := open_prim_at B hs hone hC h0 h1 h2 h3 h4 h5 he hc g3
    refine ⟨z1, z2, z3, y1, y2, y3, ?_, ?_, ?_⟩
    · have a1' : (cs.toList.drop (0 * 6)).take 6 = Rp.enc z1 y1 := a1
      have a2' : (cs.toList.drop (1 * 6)).take 6 = Rp.enc z2 y2 := a2
      have a3' : (cs.toList.drop (2 * 6)).take 6 = Rp.enc z3 y3 := a3
      have e : cs.toList = (cs.toList.drop (0 * 6)).take 6 ++ ((cs.toList.drop (1 * 6)).take 6 ++ (cs.toList.drop (2 * 6)).take 6) := by
        obtain ⟨l⟩ := cs
        simp only at hsz' ⊢
        match l, hsz' with
        | [_, _, _, _, _, _, _, _, _, _, _, _, _, _, _, _, _, _], _ => rfl
      rw [← a1', ← a2', ← a3', ← e]
    · intro a ha
      rcases List.mem_append.1 ha with h | h
      · exact b1 a h
      · rcases List.mem_append.1 h with h | h
        · exact b2 a h
        · exact b3 a h
    · simp only [Prod.mk.injEq] at hx
      rw [hx.1, B.agg]
      simp only [List.map_cons, List.map_nil, B.cons, B.nil]
      omega
/-- a contract, at a row: nothing of one's own goes in, nothing comes out -/
theorem con_row {f : FuncId} {vs : List Value} {Γi : List Asn} {r : Value} (h : Con P f vs [] Γi Unit (fun _ => r) (fun _ => []) (fun _ => [])) (hg : ∀ a ∈ Γi, a.p (fun _ => False) w) :
    Calls P f vs.toArray w fun e w' => e = .returned r ∧ Below w.heap.size w w' := by
  refine (h (fun _ => False) [] w ⟨trivial, List.Pairwise.nil, (fun b hb => (own_nil b hb).elim), (fun b hb => (own_nil b hb).elim), (fun b hb => (own_nil b hb).elim), ?_, Upd.refl _ _, (fun b hb => hb.elim), (fun b hb => (own_nil b hb).elim)⟩).mono ?_
  · intro a ha
    exact a.st _ _ _ _ (hg a ha) (fun _ _ _ => rfl) (fun b _ hb => hb.elim (fun h => h) (fun h => own_nil b h)) (Nat.le_refl _)
  · rintro e w' ⟨_, Fs', rfl, hh⟩
    exact ⟨rfl, hh.up.below fun b hb hb' => own_nil b hb'⟩
end
end Go.Sx

end
section
set_option linter.unusedVariables false
set_option linter.unusedSimpArgs false
namespace Go.Sx
open Go Go.RowKit Go.Proofs Go.Joins Go.ChangeShapes Go.WideShapes Go.Deep
/-! Slices that came in, of whatever is opened. -/
structure BulkI (H : Type) extends Bulk H where
  int : ∀ k z, one (.lit (.int k z)) = 1
section
variable {H : Type} {enc : TypeId × Value → H} {P : Program} {w : World}
theorem cell_at {a : Addr} {v : Value} (h : w.cell? ((a.add 0).add 0) = some v) : ∃ b o, a = ⟨b, o, none⟩ := by
  obtain ⟨b, o, sp⟩ := a
  cases sp with
  | none => exact ⟨b, o, rfl⟩
  | some z =>
    simp only [Addr.add, World.cell?] at h
    split at h <;> simp_all
theorem open_slice {α : Type} [Rp α] {t e : TypeId} {fuel : Nat} {v : Value} {x : DataW H × List MemPlace} (B : Bulk H) (ht : P.underlying t = some (.slice e)) (hc : P.cellsOf e = Rp.size α) (hsz : 0 < Rp.size α) (W : α → Nat)
    (he : ∀ n cs x, DataW.trod enc P w 0 (fun _ => true) true n e cs = some x → ∃ (z : α) (y : Rp.Lay α), cs = Rp.enc z y ∧ (∀ a ∈ Rp.asn z y, a.p (fun _ => False) w) ∧ W z + 1 ≤ B.one x.1)
    (h : DataW.trod enc P w 0 (fun _ => true) true fuel t [v] = some x) :
    ∃ (l : List α) (y : Option Addr × Nat), v = .slice y.1 l.length y.2 ∧ (slA y.1 l).p (fun _ => False) w ∧ l.length + (l.map W).sum ≤ B.one x.1 ∧ l.length ≤ y.2 ∧ (B.one .nil = 1 → l.length + (l.map W).sum + 1 ≤ B.one x.1) ∧ (y.1 = none → y.2 = 0) := by
  rcases DataW.trod_slice ht h with ⟨h0, hx0⟩ | ⟨a, len, cap, elems, rest, n, _, h0, hx, hb, hl, hm, hlen, hel, _, _⟩
  · cases h0
    exact ⟨[], (none, 0), rfl, (fun j x hj => by simp at hj), by simp, Nat.zero_le _, fun h1 => by rw [hx0]; simp [h1], fun _ => rfl⟩
  · cases h0
    have key : ∀ k, k ≤ len → ∃ l : List α, l.length = k ∧ (l.length + (l.map W).sum ≤ B.all ((elems.take k).map (·.1))) ∧
        ∀ j z, l[j]? = some z → ∃ y : Rp.Lay α, (∀ i v, (Rp.enc z y)[i]? = some v → w.cell? ((a.add (j * Rp.size α)).add i) = some v) ∧ ∀ p ∈ Rp.asn z y, p.p (fun _ => False) w := by
      intro k
      induction k with
      | zero => exact fun _ => ⟨[], rfl, by simp [B.nil], fun j z hj => by simp at hj⟩
      | succ k ih =>
        intro hk
        obtain ⟨l, h1, h2, h3⟩ := ih (by omega)
        have hk1 : k < elems.length := by omega
        have hr := hel k (by omega)
        rw [List.getElem?_eq_getElem hk1, Option.bind_eq_some_iff] at hr
        obtain ⟨cs, hcs, htr⟩ := hr
        obtain ⟨z, y, rfl, hy, hw⟩ := he _ _ _ htr
        rw [hc] at hcs
        obtain ⟨_, _, hcell⟩ := World.cells?_some hcs
        refine ⟨l ++ [z], by simp [h1], ?_, fun j z' hj => ?_⟩
        · have hall : ∀ (xs : List (DataW H)) (d : DataW H), B.all (xs ++ [d]) = B.all xs + B.one d := by
            intro xs d
            induction xs with
            | nil => simp [B.cons, B.nil]
            | cons x xs ih => rw [List.cons_append, B.cons, B.cons, ih]; omega
          have e5 : (elems.take (k + 1)).map (·.1) = (elems.take k).map (·.1) ++ [elems[k].1] := by rw [List.take_succ_eq_append_getElem hk1, List.map_append]; rfl
          rw [e5, hall]
          simp only [List.length_append, List.map_append, List.sum_append, List.length_cons, List.length_nil, List.map_cons, List.map_nil, List.sum_cons, List.sum_nil]
          omega
        · rcases Nat.lt_or_ge j l.length with hj' | hj'
          · rw [List.getElem?_append_left hj'] at hj
            exact h3 j z' hj
          · rw [List.getElem?_append_right hj'] at hj
            have hj0 : j - l.length = 0 := by
              have := (List.getElem?_eq_some_iff.1 hj).1
              simpa using this
            have hje : j = k := by omega
            subst hje
            rw [hj0] at hj
            have : z = z' := by simpa using hj
            subst this
            refine ⟨y, fun i v hi => ?_, hy⟩
            have hlt := (List.getElem?_eq_some_iff.1 hi).1
            rw [Rp.len] at hlt
            rw [hcell i hlt]
            exact hi
    obtain ⟨l, h1, h2, h3⟩ := key len (Nat.le_refl _)
    have htk : elems.take len = elems := List.take_of_length_le (by omega)
    rw [htk] at h2
    refine ⟨l, (some a, cap), by rw [h1], ?_, ?_, by dsimp only; omega, fun _ => ?_, fun h => by cases h⟩
    · intro j z hj
      obtain ⟨y, hy1, hy2⟩ := h3 j z hj
      have hl0 : 0 < l.length := by have := (List.getElem?_eq_some_iff.1 hj).1; omega
      obtain ⟨y0, hy0, _⟩ := h3 0 l[0] (List.getElem?_eq_getElem hl0)
      have hpos : 0 < (Rp.enc l[0] y0).length := by rw [Rp.len]; exact hsz
      have hc0 := hy0 0 _ (List.getElem?_eq_getElem hpos)
      rw [Nat.zero_mul] at hc0
      obtain ⟨b, o, rfl⟩ := cell_at hc0
      have hlt : b < w.heap.size := by
        rw [Addr.add_lit, Addr.add_lit] at hc0
        simp only [World.cell?] at hc0
        cases hb : w.heap[b]? with
        | none => simp [hb] at hc0
        | some x => exact (Array.getElem?_eq_some_iff.1 hb).1
      refine ⟨b, o, y, rfl, id, hlt, fun i v hi => ?_, hy2⟩
      have := hy1 i v hi
      rw [Addr.add_lit, Addr.add_lit] at this
      exact this
    · rw [hx]
      simp only
      rw [B.slc]
      omega
    · rw [hx]
      simp only
      rw [B.slc]
      omega
theorem open_ints1 {t e : TypeId} {fuel : Nat} {v : Value} {x : DataW H × List MemPlace} (B : BulkI H) (ht : P.underlying t = some (.slice e)) (he : P.underlying e = some (.int .i64)) (hc : P.cellsOf e = 1)
    (h : DataW.trod enc P w 0 (fun _ => true) true fuel t [v] = some x) :
    ∃ (l : List Int) (y : Option Addr × Nat), v = .slice y.1 l.length y.2 ∧ (slA y.1 l).p (fun _ => False) w ∧ l.length ≤ B.one x.1 := by
  obtain ⟨l, y, h1, h2, h3, _⟩ := open_slice (α := Int) B.toBulk ht hc (by decide) (fun _ => 0) (fun n cs x hx => by
    obtain ⟨z, e1, e2, _⟩ := DataW.trod_int he hx
    refine ⟨z, (), e1, (fun a ha => by cases ha), ?_⟩
    rw [e2]
    simp only
    rw [B.int]; exact Nat.le_refl _) h
  refine ⟨l, y, h1, h2, ?_⟩
  have e6 : ∀ l : List Int, (l.map fun _ => 0).sum = 0 := by
    intro l
    induction l with
    | nil => rfl
    | cons x l ih => simp only [List.map_cons, List.sum_cons, ih]
  have := e6 l
  omega
end
end Go.Sx

end
section
set_option linter.unusedVariables false
set_option linter.unusedSimpArgs false
namespace Go.Proofs.YtdbiillompeclaaGreatDoor.X
open Go Go.RowKit Go.Proofs Go.Sx Go.Joins Go.ChangeShapes Go.WideShapes Go.Deep
section
variable {H : Type} {enc : TypeId × Value → H} {P : Program} {w : World}
/-- what the types of a prim are -/
structure PrTys (P : Program) (tp : TypeId) : Prop where
  ex : ∃ (g0 g1 g2 g3 g4 g5 : Field) (es : TypeId),
    P.underlying tp = some (.struct #[g0, g1, g2, g3, g4, g5]) ∧ oneCellFields P #[g0, g1, g2, g3, g4, g5] = true ∧ P.cellsOf tp = 6 ∧
    P.underlying g0.type = some (.int .i64) ∧ P.underlying g1.type = some .string ∧ P.underlying g2.type = some .string ∧ P.underlying g3.type = some (.int .i64) ∧ P.underlying g4.type = some (.slice es) ∧ P.underlying g5.type = some (.slice es) ∧ P.underlying es = some .string ∧ P.cellsOf es = 1
theorem open_row_at {t tp : TypeId} {cs : List Value} {fuel : Nat} {x : DataW H × List MemPlace} (B : BulkI H) (h1 : B.one .nil = 1) (ht : P.underlying t = some (.slice tp)) (hT : PrTys P tp) (h : DataW.trod enc P w 0 (fun _ => true) true fuel t cs = some x) :
    ∃ (l : List Prim) (y : Rp.Lay (List Prim)), cs = Rp.enc l y ∧ (∀ a ∈ Rp.asn l y, a.p (fun _ => False) w) ∧ Sx.many l + 1 ≤ B.one x.1 := by
  obtain ⟨u0, u1, u2, u3, u4, u5, es, htp, hone2, hC2, k0, k1, k2, k3, k4, k5, hes, hces⟩ := hT.ex
  obtain ⟨v, rfl⟩ : ∃ v, cs = [v] := by
    rcases DataW.trod_slice ht h with ⟨h0, _⟩ | ⟨a, len, cap, elems, rest, n, _, h0, _⟩
    · exact ⟨_, h0⟩
    · exact ⟨_, h0⟩
  obtain ⟨l, y, rfl, h3, _, _, h5, h6⟩ := open_slice (α := Prim) B.toBulk ht hC2 (by decide) Prim.many (fun n cs x hx => open_prim_at B.toBulk htp hone2 hC2 k0 k1 k2 k3 k4 k5 hes hces hx) h
  refine ⟨l, y, rfl, fun a ha => ?_, ?_⟩
  · have ha' : a = slA y.1 l ∨ a = nilA y := by simpa [Rp.asn] using ha
    rcases ha' with rfl | rfl
    · exact h3
    · exact h6
  · have := h5 h1
    unfold Sx.many
    omega
theorem open_row {r : Reach} {b0 : Nat} {t tp : TypeId} {v : Value} {d : DataW H} {p : List MemPlace} (B : BulkI H) (h1 : B.one .nil = 1) (ht : P.underlying t = some (.slice tp)) (hT : PrTys P tp) (hv : Value.okWide P w r b0 t v) (h : DataW.Trod enc P w 0 (fun _ => true) true t v d p) :
    ∃ (l : List Prim) (y : Option Addr × Nat), v = .slice y.1 l.length y.2 ∧ (slA y.1 l).p (fun _ => False) w ∧ Sx.many l + 1 ≤ B.one d ∧ (y.1 = none → y.2 = 0) := by
  obtain ⟨fuel, hf⟩ := h
  obtain ⟨a0, len, cap, rfl⟩ := okWide_slice ht hv
  have hf' : DataW.trod enc P w 0 (fun _ => true) true fuel t [.slice a0 len cap] = some (d, p) := hf
  obtain ⟨l, y, e, g, m⟩ := open_row_at B h1 ht hT hf'
  refine ⟨l, y, ?_, g (slA y.1 l) (List.mem_cons_self), m, g (nilA y) (List.mem_cons_of_mem _ List.mem_cons_self)⟩
  have e' : [Value.slice a0 len cap] = [Value.slice y.1 l.length y.2] := e
  exact (List.cons.inj e').1
theorem open_rows {r : Reach} {b0 : Nat} {t te tp : TypeId} {v : Value} {d : DataW H} {p : List MemPlace} (B : BulkI H) (h1 : B.one .nil = 1) (ht : P.underlying t = some (.slice te)) (hc : P.cellsOf te = 1) (hte : P.underlying te = some (.slice tp)) (hT : PrTys P tp) (hv : Value.okWide P w r b0 t v) (h : DataW.Trod enc P w 0 (fun _ => true) true t v d p) :
    ∃ (l : List (List Prim)) (y : Option Addr × Nat), v = .slice y.1 l.length y.2 ∧ (slA y.1 l).p (fun _ => False) w ∧ l.length + (l.map Sx.many).sum + 1 ≤ B.one d ∧ l.length ≤ y.2 ∧ (y.1 = none → y.2 = 0) := by
  obtain ⟨fuel, hf⟩ := h
  obtain ⟨a0, len, cap, rfl⟩ := okWide_slice ht hv
  have hf' : DataW.trod enc P w 0 (fun _ => true) true fuel t [.slice a0 len cap] = some (d, p) := hf
  obtain ⟨l, y, e, g, _, c, m, n⟩ := open_slice (α := List Prim) B.toBulk ht hc (by decide) Sx.many (fun n cs x hx => open_row_at B h1 hte hT hx) hf'
  exact ⟨l, y, e, g, m h1, c, n⟩
/-- what the types of a number and a row are -/
structure ByTys (P : Program) (t tp : TypeId) : Prop where
  ex : ∃ f0 f1 : Field, P.underlying t = some (.struct #[f0, f1]) ∧ oneCellFields P #[f0, f1] = true ∧ P.cellsOf t = 2 ∧ P.underlying f0.type = some (.int .i64) ∧ P.underlying f1.type = some (.slice tp)
theorem open_by {r : Reach} {b0 : Nat} {t tp : TypeId} {v : Value} {d : DataW H} {p : List MemPlace} (B : BulkI H) (h1 : B.one .nil = 1) (hY : ByTys P t tp) (hT : PrTys P tp) (hv : Value.okWide P w r b0 t v) (h : DataW.Trod enc P w 0 (fun _ => true) true t v d p) :
    ∃ (i : Int) (l : List Prim) (y : Option Addr × Nat), v = .agg #[.int .i64 i, .slice y.1 l.length y.2] ∧ (slA y.1 l).p (fun _ => False) w ∧ Sx.many l + 1 ≤ B.one d ∧ (y.1 = none → y.2 = 0) ∧ (Lit.int .i64 i).wf = true := by
  obtain ⟨f0, f1, hs, hone, hC, k0, k1⟩ := hY.ex
  obtain ⟨cs0, rfl, hsz0⟩ := okWide_struct hs hv
  obtain ⟨fuel, hf⟩ := h
  obtain ⟨xs, n, _, hx, hsz, hlen, hg⟩ := DataW.trod_struct hs hf
  have hcs : (Value.agg cs0).cells.toList = cs0.toList := rfl
  rw [hcs] at hsz hg
  match hc : cs0.toList, hsz.trans hC with
  | [c0, c1], _ =>
    rw [hc] at hg
    obtain ⟨o0, q0⟩ := hone_of hone 0 f0 rfl
    obtain ⟨o1, q1⟩ := hone_of hone 1 f1 rfl
    match xs, hlen with
    | [y0, y1], _ =>
      have hx' := hx
      have g0 : DataW.trod enc P w 0 (fun _ => true) true n f0.type [c0] = some y0 := by simpa [o0, q0] using hg 0 f0 rfl
      have g1 : DataW.trod enc P w 0 (fun _ => true) true n f1.type [c1] = some y1 := by simpa [o1, q1] using hg 1 f1 rfl
      obtain ⟨z0, r0, e0, w0⟩ := DataW.trod_int k0 g0
      obtain ⟨l, y, r1, a1, b1⟩ := open_row_at B h1 k1 hT g1
      cases r0
      have r1' : [c1] = [Value.slice y.1 l.length y.2] := r1
      cases r1'
      refine ⟨z0, l, y, ?_, a1 (slA y.1 l) List.mem_cons_self, ?_, a1 (nilA y) (List.mem_cons_of_mem _ List.mem_cons_self), w0⟩
      · have : cs0 = #[.int .i64 z0, .slice y.1 l.length y.2] := Array.ext' hc
        rw [this]
      · have hd : d = .agg ([y0, y1].map (·.1)) := by
          have := congrArg Prod.fst hx'
          simpa using this
        rw [hd]
        simp only [List.map_cons, List.map_nil]
        rw [B.agg]
        simp only [B.cons, B.nil]
        omega
theorem many_mem {l : List Prim} {p : Prim} (h : p ∈ l) : p.many ≤ Sx.many l := by
  unfold Sx.many
  have : p.many ≤ (l.map Prim.many).sum := by
    induction l with
    | nil => cases h
    | cons y l ih =>
      simp only [List.map_cons, List.sum_cons]
      rcases List.mem_cons.1 h with rfl | h
      · omega
      · have := ih h; omega
  omega
theorem rows_mem {rows : List (List Prim)} {l : List Prim} (h : l ∈ rows) : Sx.many l ≤ (rows.map Sx.many).sum := by
  induction rows with
  | nil => cases h
  | cons y rows ih =>
    simp only [List.map_cons, List.sum_cons]
    rcases List.mem_cons.1 h with rfl | h
    · omega
    · have := ih h; omega
theorem sizes_mem' {l : List ByteArray} {s : ByteArray} (h : s ∈ l) : s.size ≤ sizes l := by
  unfold sizes
  induction l with
  | nil => cases h
  | cons x l ih =>
    simp only [List.map_cons, List.sum_cons]
    rcases List.mem_cons.1 h with rfl | h
    · omega
    · have := ih h; omega
theorem fit_many {p : Prim} (h : p.many ≤ 2000000) : p.fit := by
  unfold Prim.many at h
  exact ⟨by omega, by omega, by omega, by omega, fun s hs => by have := sizes_mem' hs; omega, fun s hs => by have := sizes_mem' hs; omega⟩
theorem row_fit {l : List Prim} (h : Sx.many l ≤ 2000000) : l.length ≤ 2000000 ∧ ∀ x ∈ l, x.fit :=
  ⟨by unfold Sx.many at h; omega, fun x hx => fit_many (by have := many_mem hx; omega)⟩
theorem rows_fit {rows : List (List Prim)} (h : (rows.map Sx.many).sum ≤ 2000000) : ∀ l ∈ rows, l.length ≤ 2000000 ∧ ∀ x ∈ l, x.fit :=
  fun l hl => row_fit (by have := rows_mem hl; omega)
end
end Go.Proofs.YtdbiillompeclaaGreatDoor.X

end
section
set_option linter.unusedVariables false
set_option linter.unusedSimpArgs false
namespace Go.Proofs.YtdbiillompeclaaGreatDoor.X
open Go Go.RowKit Go.Proofs Go.Sx Go.Joins Go.ChangeShapes Go.WideShapes Go.Deep
section
variable {H : Type} {enc : TypeId × Value → H} {P : Program} {w : World}
/-- a text, as an element -/
theorem open_str_at {t : TypeId} {fuel : Nat} {cs : List Value} {x : DataW H × List MemPlace} (B : Bulk H) (ht : P.underlying t = some .string) (h : DataW.trod enc P w 0 (fun _ => true) true fuel t cs = some x) :
    ∃ (z : ByteArray) (y : Rp.Lay ByteArray), cs = Rp.enc z y ∧ (∀ a ∈ Rp.asn z y, a.p (fun _ => False) w) ∧ z.size + 1 ≤ B.one x.1 := by
  obtain ⟨s, rfl, e, _⟩ := DataW.trod_string ht h
  refine ⟨s, (), rfl, fun a ha => (by cases ha), ?_⟩
  rw [e]
  have e7 : s.data.toList.length = s.size := by rw [Array.length_toList]; rfl
  simp only [B.str]
  omega
/-- a row of texts that came in -/
theorem open_texts_at {t e : TypeId} {fuel : Nat} {v : Value} {x : DataW H × List MemPlace} (B : Bulk H) (h1 : B.one .nil = 1) (ht : P.underlying t = some (.slice e)) (he : P.underlying e = some .string) (hc : P.cellsOf e = 1) (h : DataW.trod enc P w 0 (fun _ => true) true fuel t [v] = some x) :
    ∃ (l : List ByteArray) (y : Option Addr × Nat), v = .slice y.1 l.length y.2 ∧ (slA y.1 l).p (fun _ => False) w ∧ l.length + sizes l + 1 ≤ B.one x.1 ∧ (y.1 = none → y.2 = 0) ∧ l.length ≤ y.2 := by
  obtain ⟨l, y, e1, g, _, cp, m, n⟩ := open_slice (α := ByteArray) B ht hc (by decide) ByteArray.size (fun n cs x hx => open_str_at B he hx) h
  exact ⟨l, y, e1, g, m h1, n, cp⟩
theorem open_texts {r : Reach} {b0 : Nat} {t e : TypeId} {v : Value} {d : DataW H} {p : List MemPlace} (B : Bulk H) (h1 : B.one .nil = 1) (ht : P.underlying t = some (.slice e)) (he : P.underlying e = some .string) (hc : P.cellsOf e = 1) (hv : Value.okWide P w r b0 t v) (h : DataW.Trod enc P w 0 (fun _ => true) true t v d p) :
    ∃ (l : List ByteArray) (y : Option Addr × Nat), v = .slice y.1 l.length y.2 ∧ (slA y.1 l).p (fun _ => False) w ∧ l.length + sizes l + 1 ≤ B.one d ∧ (y.1 = none → y.2 = 0) ∧ l.length ≤ y.2 := by
  obtain ⟨fuel, hf⟩ := h
  obtain ⟨a0, len, cap, rfl⟩ := okWide_slice ht hv
  exact open_texts_at B h1 ht he hc hf
/-- what the types of a call are -/
structure OpTys (P : Program) (t : TypeId) : Prop where
  ex : ∃ (f0 f1 f2 f3 : Field) (es : TypeId), P.underlying t = some (.struct #[f0, f1, f2, f3]) ∧ oneCellFields P #[f0, f1, f2, f3] = true ∧ P.cellsOf t = 4 ∧
    P.underlying f0.type = some (.int .i64) ∧ P.underlying f1.type = some .string ∧ P.underlying f2.type = some .string ∧ P.underlying f3.type = some (.slice es) ∧ P.underlying es = some .string ∧ P.cellsOf es = 1
theorem open_top_at {t : TypeId} {cs : List Value} {fuel : Nat} {x : DataW H × List MemPlace} (B : BulkI H) (h1 : B.one .nil = 1) (hT : OpTys P t) (hf : DataW.trod enc P w 0 (fun _ => true) true fuel t cs = some x) :
    ∃ (z : TOp) (y : Rp.Lay TOp), cs = Rp.enc z y ∧ (∀ a ∈ Rp.asn z y, a.p (fun _ => False) w) ∧ z.many + 1 ≤ B.one x.1 := by
  obtain ⟨f0, f1, f2, f3, es, hs, hone, hC, k0, k1, k2, k3, kes, kc⟩ := hT.ex
  obtain ⟨xs, n, _, hx, hsz, hlen, hg⟩ := DataW.trod_struct hs hf
  match cs, hsz.trans hC with
  | [c0, c1, c2, c3], _ =>
    obtain ⟨o0, q0⟩ := hone_of hone 0 f0 rfl
    obtain ⟨o1, q1⟩ := hone_of hone 1 f1 rfl
    obtain ⟨o2, q2⟩ := hone_of hone 2 f2 rfl
    obtain ⟨o3, q3⟩ := hone_of hone 3 f3 rfl
    match xs, hlen with
    | [y0, y1, y2, y3], _ =>
      subst hx
      have g0 : DataW.trod enc P w 0 (fun _ => true) true n f0.type [c0] = some y0 := by simpa [o0, q0] using hg 0 f0 rfl
      have g1 : DataW.trod enc P w 0 (fun _ => true) true n f1.type [c1] = some y1 := by simpa [o1, q1] using hg 1 f1 rfl
      have g2 : DataW.trod enc P w 0 (fun _ => true) true n f2.type [c2] = some y2 := by simpa [o2, q2] using hg 2 f2 rfl
      have g3 : DataW.trod enc P w 0 (fun _ => true) true n f3.type [c3] = some y3 := by simpa [o3, q3] using hg 3 f3 rfl
      obtain ⟨z0, r0, e0, _⟩ := DataW.trod_int k0 g0
      obtain ⟨s1, r1, e1, _⟩ := DataW.trod_string k1 g1
      obtain ⟨s2, r2, e2, _⟩ := DataW.trod_string k2 g2
      obtain ⟨l3, v3, r3, a3, b3, n3, _⟩ := open_texts_at B.toBulk h1 k3 kes kc g3
      cases r0; cases r1; cases r2; subst r3
      refine ⟨⟨z0, s1, s2, l3⟩, v3, rfl, ?_, ?_⟩
      · intro a ha
        have ha' : a = slA v3.1 l3 ∨ a = nilA v3 := by simpa [Rp.asn] using ha
        rcases ha' with rfl | rfl
        · exact a3
        · exact n3
      · simp only [List.map_cons, List.map_nil]
        rw [B.agg]
        simp only [B.cons, B.nil]
        rw [e0, e1, e2]
        simp only [B.str, B.int]
        have e7 : s1.data.toList.length = s1.size := by rw [Array.length_toList]; rfl
        have e8 : s2.data.toList.length = s2.size := by rw [Array.length_toList]; rfl
        simp only [TOp.many]
        omega
theorem open_tops {r : Reach} {b0 : Nat} {t e : TypeId} {v : Value} {d : DataW H} {p : List MemPlace} (B : BulkI H) (h1 : B.one .nil = 1) (ht : P.underlying t = some (.slice e)) (hT : OpTys P e) (hv : Value.okWide P w r b0 t v) (h : DataW.Trod enc P w 0 (fun _ => true) true t v d p) :
    ∃ (l : List TOp) (y : Option Addr × Nat), v = .slice y.1 l.length y.2 ∧ (slA y.1 l).p (fun _ => False) w ∧ l.length + omany l + 1 ≤ B.one d ∧ (y.1 = none → y.2 = 0) := by
  obtain ⟨f0, f1, f2, f3, es, hs, hone, hC, _⟩ := hT.ex
  obtain ⟨fuel, hf⟩ := h
  obtain ⟨a0, len, cap, rfl⟩ := okWide_slice ht hv
  have hf' : DataW.trod enc P w 0 (fun _ => true) true fuel t [.slice a0 len cap] = some (d, p) := hf
  obtain ⟨l, y, e1, g, _, _, m, n⟩ := open_slice (α := TOp) B.toBulk ht hC (by decide) TOp.many (fun n cs x hx => open_top_at B h1 hT hx) hf'
  exact ⟨l, y, e1, g, m h1, n⟩
end
end Go.Proofs.YtdbiillompeclaaGreatDoor.X

end
section
set_option linter.unusedVariables false
set_option linter.unusedSimpArgs false
namespace Go.Proofs.YtdbiillompeclaaGreatDoor.X
open Go Go.RowKit Go.Proofs Go.Sx Go.Joins Go.ChangeShapes Go.WideShapes Go.Deep
section
variable {H : Type} {enc : TypeId × Value → H} {P : Program} {w : World}
theorem open_pr {r : Reach} {b0 : Nat} {t : TypeId} {v : Value} {d : DataW H} {p : List MemPlace} (B : BulkI H) (hT : PrTys P t) (hv : Value.okWide P w r b0 t v) (h : DataW.Trod enc P w 0 (fun _ => true) true t v d p) :
    ∃ (x : Prim) (y : Rp.Lay Prim), v = sv x y ∧ (∀ a ∈ Rp.asn x y, a.p (fun _ => False) w) ∧ x.many ≤ B.one d := by
  obtain ⟨u0, u1, u2, u3, u4, u5, es, htp, hone2, hC2, k0, k1, k2, k3, k4, k5, hes, hces⟩ := hT.ex
  exact open_prim B.toBulk htp hone2 hC2 k0 k1 k2 k3 k4 k5 hes hces hv h
end
end Go.Proofs.YtdbiillompeclaaGreatDoor.X

end
