/- OWN WORK: a part of the proof of a law of the seat YtaojmjfgopbgcaaDoor: the rules by which the code is walked. -/
import Derived.Test.YtaojmjfgopbgcaaDoorXSxI
import Derived.Sort.OwnSorted
set_option linter.unusedVariables false
set_option linter.unusedSimpArgs false
namespace Go.Sx
open Go Go.RowKit
section
variable {P : Program} {M0 F0 : Nat → Prop} {w0 : World} {n : Nat} {σ : List (Nat × Value)} {Ξ : List Xsn} {Γ : List Asn} {d : Nat} {ty : TypeId} {pos : String} {af : Array Edge}
/-- append: the first one is a row of one's own, the second one lies in data -/
theorem o_app {α : Type} [Rp α] {x y : Operand} {t e : TypeId} {z : Value} {bytes : Nat} {A B : Option Addr} {c c' : Nat} {l m : List α} {is : List Nat} {Ξ' : List Xsn}
    (ht : P.underlying t = some (.slice e)) (hinfo : (P.info? e).map (fun i => (i.zero, i.size, i.bytes)) = some (some z, Rp.size α, bytes)) (hzs : z.cells.size = Rp.size α) (hsz : 0 < Rp.size α) (hb0 : 0 < bytes)
    (hx : ev σ x = some (.slice A l.length c)) (hy : ev σ y = some (.slice B m.length c')) (hl : (l.length + m.length) * bytes ≤ 140737488355328) (hB : m = [] → B = none → c' = 0) (hs : takeAll is Ξ = some ([row e A c l], Ξ')) (hg : Sub [slA B m] Γ) (hd : Nat.blt d n = true) :
    OpR P ⟨some d, .call ⟨.builtin .append, #[x, y], #[t, t]⟩, ty, pos, af, none⟩ (St M0 F0 w0 n σ Ξ Γ) (fun a w => ∃ q : Option Addr × Nat, St M0 F0 w0 n ((d, .slice q.1 (l ++ m).length q.2) :: σ) (row e q.1 q.2 (l ++ m) :: Ξ') Γ a w) := by
  have hloc := loc_app (P := P) (ty' := ty) (α := α) ht hinfo hzs hsz hb0 A c l B c' m hl hB
  refine (o_loc hloc ?_ hs hg hd).mono ?_
  · intro a hsl w v w' hr
    have h1 := hsl.ev hx
    have h2 := hsl.ev hy
    have hm : (#[x, y] : Array Operand).map a.eval = #[.slice A l.length c, .slice B m.length c'] := by simp [h1, h2]
    simp only [execOp, resolve, invoke, builtin, hm]
    simp [hr]
  · rintro a w ⟨q, h⟩
    exact ⟨q, by simpa using h⟩
/-- a call that yields nothing -/
theorem o_call0 {f : FuncId} {args : List Operand} {tys : Array TypeId} {vs : List Value} {Ξi Ξ' : List Xsn} {Γi : List Asn} {X : Type} {rv : X → Value} {Ξo : X → List Xsn} {Γo : X → List Asn} {is : List Nat}
    (hcf : ∀ args w, (callFunc f args).run P w = .ok (.enter f args) w) (hc : Con P f vs Ξi Γi X rv Ξo Γo) (ha : evL σ args = some vs) (hs : takeAll is Ξ = some (Ξi, Ξ')) (hg : Sub Γi Γ) :
    OpR P ⟨none, .call ⟨.value (.func f), args.toArray, tys⟩, ty, pos, af, none⟩ (St M0 F0 w0 n σ Ξ Γ) (fun a w => ∃ x, St M0 F0 w0 n σ (Ξo x ++ Ξ') (Γo x ++ Γ) a w) := by
  refine OpR.of_enter rfl fun a w ⟨hsl, Fs, hh⟩ => ⟨f, vs.toArray, ?_, ?_⟩
  · have hm := hsl.evL ha
    have : args.toArray.map a.eval = vs.toArray := by simp [hm]
    simp [execOp, resolve, Deferred.ofValue, invoke, Act.eval, this, hcf]
  · obtain ⟨Gs, Hs, hp, hin, hr⟩ := hh.select hs hg.mem
    refine (hc _ Gs w hin).mono ?_
    rintro e w' ⟨x, Fs', rfl, hout⟩
    exact ⟨_, rfl, x, hsl.put_none _, _, hh.back hp hr hout⟩
end
/-! strings, sorted -/
def toB (l : List UInt8) : ByteArray := ⟨l.toArray⟩
def ofB (b : ByteArray) : List UInt8 := b.data.toList
theorem toB_ofB (b : ByteArray) : toB (ofB b) = b := rfl
def sortB (l : List ByteArray) : List ByteArray := ((l.map ofB).mergeSort fun x y => decide (x ≤ y)).map toB
theorem sortB_perm (l : List ByteArray) : (sortB l).Perm l := by
  have h := (List.mergeSort_perm (l.map ofB) (fun x y => decide (x ≤ y))).map toB
  have e : (l.map ofB).map toB = l := by simp [Function.comp_def, toB_ofB]
  rw [e] at h
  exact h
theorem sortB_length (l : List ByteArray) : (sortB l).length = l.length := (sortB_perm l).length_eq
theorem sortB_mem {l : List ByteArray} {x : ByteArray} : x ∈ sortB l ↔ x ∈ l := (sortB_perm l).mem_iff
theorem rowE_strs {M : Nat → Prop} {w : World} : ∀ {l : List ByteArray} {xs : List Value}, RowE M w l xs → xs = l.map (fun b => Value.string b)
  | _, _, .nil => rfl
  | _, _, .snoc y h _ => by
    rw [rowE_strs h]; simp [Rp.enc]
theorem strs_rowE {M : Nat → Prop} {w : World} (l : List ByteArray) : RowE M w l (l.map fun b => Value.string b) := by
  have : ∀ (r : List ByteArray), RowE M w r.reverse (r.reverse.map fun b => Value.string b) := by
    intro r
    induction r with
    | nil => exact .nil
    | cons x r ih =>
      simp only [List.reverse_cons, List.map_append, List.map_cons, List.map_nil]
      exact .snoc () ih (fun p hp => by cases hp)
  simpa using this l.reverse
open Go.Sort Go.Proofs in
/-- slices.Sort of strings: a row of one's own -/
theorem con_sort {P : Program} {f : FuncId} (e : TypeId) (A : Option Addr) (c : Nat) (l : List ByteArray) (hl : l.length ≤ 2000000)
    (h0 : ∀ w, Calls P f #[.slice none 0 0] w fun e w' => e = .returned (.tuple #[]) ∧ w' = w)
    (h1 : ∀ (blk cap : Nat) (ss : List (List UInt8)) (w : World), Holds encStr w blk 0 ss.toArray → blk < w.heap.size → ss.length < 4611686018427387904 → Calls P f #[.slice (some ⟨blk, 0, none⟩) ss.length cap] w fun e w' =>
      e = .returned (.tuple #[]) ∧ ∃ n os, w' = grow (putRow encStr (Sort.ahead w n) blk 0 (ss.mergeSort fun x y => decide (x ≤ y)).toArray) os) :
    Con P f [.slice A l.length c] [row e A c l] [] Unit (fun _ => .tuple #[]) (fun _ => [row e A c (sortB l)]) (fun _ => []) := by
  intro M0 Fs w hh
  obtain ⟨F, rfl⟩ : ∃ F, Fs = [F] := by
    match Fs, hh.ex with
    | [F], _ => exact ⟨F, rfl⟩
    | _ :: _ :: _, h => exact h.2.elim
  obtain ⟨⟨xs, ho, hF, hr⟩, _⟩ := hh.ex
  have hxs := rowE_strs hr
  subst hxs
  have henc : (l.map ofB).map encStr = l.map (fun b => Value.string b) := by simp [Function.comp_def, encStr, ofB]
  rcases ho.2 with ⟨hnil, h0l⟩ | ⟨g, cap, cur, hv, hbase, hb, h2, h3, h4, h5⟩
  · obtain ⟨rfl, hl', rfl⟩ : A = none ∧ l.length = 0 ∧ c = 0 := by simpa using hnil
    have hl0 : l = [] := List.eq_nil_of_length_eq_zero hl'
    subst hl0
    refine (h0 w).mono ?_
    rintro en w' ⟨rfl, rfl⟩
    refine ⟨(), [F], rfl, ?_⟩
    refine hh.one (Upd.refl _ _) (fun b h => .inl h) (fun b h => hh.lt b (by simp [own, h])) ?_
    refine ⟨[], ?_, hF, by simpa [sortB] using RowE.nil⟩
    simpa [sortB] using ho
  · obtain ⟨rfl, rfl⟩ : A = some ⟨g, 0, none⟩ ∧ c = cap := by simpa using hv
    have hH : Holds encStr w g 0 (l.map ofB).toArray := by
      refine holds_of_block hb ?_
      rw [List.length_map, henc]
      have : l.length * Rp.size ByteArray = l.length := Nat.mul_one _
      rw [this] at h5
      exact h5
    have hlt : g < w.heap.size := (Array.getElem?_eq_some_iff.1 hb).1
    have hc := h1 g c (l.map ofB) w hH hlt (by simp; omega)
    rw [List.length_map] at hc
    refine hc.mono ?_
    rintro en w' ⟨rfl, k, os, rfl⟩
    refine ⟨(), [F], rfl, ?_⟩
    have hg := grownBy_sorted (w := w) (g := g) (n := k) (os := os) ((l.map ofB).mergeSort fun x y => decide (x ≤ y)).toArray
    have hFg : ∀ b, F b ↔ g = b := fun b => by rw [hF]; simp [Value.ownBlock]
    refine hh.one ⟨hg.os, hg.tape, hg.output, hg.size, fun b hb hn => hg.block b hb (fun e' => hn ((hFg b).2 (by simpa using e'.symm)))⟩ (fun b h => .inl h) (fun b h => Nat.lt_of_lt_of_le (hh.lt b (by simp [own, h])) hg.size) ?_
    refine ⟨(sortB l).map fun b => Value.string b, ?_, ?_, strs_rowE _⟩
    · have hs := ownsRow_sorted (w := w) (base := 0) (g := g) (cap := c) (n := k) (e := e) (os := os) (cur := cur) (ss := l.map ofB) (ts := (l.map ofB).mergeSort fun x y => decide (x ≤ y)) (by simp) (Nat.zero_le _) hb (by simpa using h2) h3 h4
      have e1 : ((l.map ofB).mergeSort fun x y => decide (x ≤ y)).map encStr = (sortB l).map fun b => Value.string b := by
        simp [sortB, Function.comp_def, encStr, toB]
      rw [e1, List.length_map, ← sortB_length l] at hs
      exact hs
    · intro b
      rw [sortB_length]
      exact hF b
end Go.Sx
