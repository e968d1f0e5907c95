/- OWN WORK: a part of the proof of a law of the seat YtdbiillompeclaaGreatDoor: the rules by which the code is walked. -/
import Derived.Test.YtdbiillompeclaaGreatDoorXSx1
import Derived.Sort.OwnSorted
import Derived.Laws.Cover3
import Derived.Laws.StructEq
import Derived.ChangeKeysEq
import Derived.Laws.MakeOwn
import Derived.Laws.Slices
import Derived.Laws.CopyRow
import Derived.Laws.IdiomCopy
import Derived.ArgAppend
section
set_option linter.unusedVariables false
set_option linter.unusedSimpArgs false
namespace Go.Sx
open Go Go.RowKit
/-- a contract of what is no call: an operation on values -/
def Loc (P : Program) (run : World → Result Value) (Ξi : List Xsn) (Γi : List Asn) (X : Type) (rv : X → Value) (Ξo : X → List Xsn) (Γo : X → List Asn) : Prop :=
  ∀ M0 Fs w, Hp M0 (own Fs) w Ξi Γi Fs w → ∃ x Fs' w', run w = .ok (rv x) w' ∧ Hp M0 (own Fs) w (Ξo x) (Γo x) Fs' w'

section
variable {ro : Option Nat} {P : Program} {M0 F0 : Nat → Prop} {w0 : World} {n : Nm} {σ : List (Nat × Value)} {Ξ : List Xsn} {Γ : List Asn} {d : Nat} {ty : TypeId} {pos : String} {af : Array Edge}
variable {ops : Array Oper} {Q : Exit → Act → World → Prop} {S S' : Act → World → Prop}
theorem o_loc {o : Op} {run : World → Result Value} {Ξi Ξ' : List Xsn} {Γi : List Asn} {X : Type} {rv : X → Value} {Ξo : X → List Xsn} {Γo : X → List Asn} {is : List Nat}
    (hc : Loc P run Ξi Γi X rv Ξo Γo) (hr : ∀ a, Slots n σ a → ∀ w v w', run w = .ok v w' → (execOp a.eval ⟨some d, o, ty, pos, af, none⟩).run P w = .ok (.value v) w') (hs : takeAll is Ξ = some (Ξi, Ξ')) (hg : Sub Γi Γ) (hd : Nat.blt d n.n = true) :
    OpR P ⟨some d, o, ty, pos, af, none⟩ (St M0 F0 w0 n σ Ξ Γ) (fun a w => ∃ x, St M0 F0 w0 n ((d, rv x) :: σ) (Ξo x ++ Ξ') (Γo x ++ Γ) a w) :=
  OpR.of_run rfl fun a w ⟨hsl, Fs, hh⟩ => by
    obtain ⟨Gs, Hs, hp, hin, hr'⟩ := hh.select hs hg.mem
    obtain ⟨x, Fs', w', h1, h2⟩ := hc _ Gs w hin
    exact ⟨_, w', hr a hsl w _ _ h1, x, hsl.put hd, _, hh.back hp hr' h2⟩
/-- one exclusive thing, as it becomes another one (in place, or in a new block) -/
theorem Hp.one {M0 : Nat → Prop} {F : Nat → Prop} {w w' : World} {x : Xsn} {Γ : List Asn} (h : Hp M0 (own [F]) w [x] Γ [F] w) {F' : Nat → Prop} {x' : Xsn} (hu : Upd F w w') (hF : ∀ b, F' b → F b ∨ w.heap.size ≤ b) (hlt : ∀ b, F' b → b < w'.heap.size) (hx : x'.p F' (fun b => M0 b ∨ own [F'] b) w') :
    Hp M0 (own [F]) w [x'] [] [F'] w' := by
  have h1 : ∀ b, own [F] b ↔ F b := fun b => by simp [own]
  have h2 : ∀ b, own [F'] b ↔ F' b := fun b => by simp [own]
  refine ⟨⟨hx, trivial⟩, List.pairwise_singleton _ _, fun b hb hm => ?_, fun b hb => hlt b ((h2 b).1 hb), fun b hb hl => ?_, (fun p hp => by cases hp), ?_, h.m0, h.f0⟩
  · rcases hF b ((h2 b).1 hb) with h' | h'
    · exact h.dis0 b ((h1 b).2 h') hm
    · have := h.m0 b hm; omega
  · rcases hF b ((h2 b).1 hb) with h' | h'
    · exact (h1 b).2 h'
    · omega
  · exact ⟨hu.os, hu.tape, hu.output, hu.size, fun b hb hn => hu.block b hb (fun h' => hn ((h1 b).2 h'))⟩

/-- append: what is appended lies in data -/
theorem loc_app {α : Type} [Rp α] {t e ty' : TypeId} {z : Value} {bytes : Nat} (ht : P.underlying t = some (.slice e)) (hinfo : (P.info? e).map (fun i => (i.zero, i.size, i.bytes)) = some (some z, Rp.size α, bytes)) (hzs : z.cells.size = Rp.size α) (hsz : 0 < Rp.size α) (hb0 : 0 < bytes)
    (A : Option Addr) (c : Nat) (l : List α) (B : Option Addr) (c' : Nat) (m : List α) (hl : (l.length + m.length) * bytes ≤ 140737488355328) (hB : m = [] → B = none → c' = 0) :
    Loc P (fun w => (Builtin.append_ #[t, t] ty' #[.slice A l.length c, .slice B m.length c']).run P w) [row e A c l] [slA B m] (Option Addr × Nat) (fun y => .slice y.1 (l.length + m.length) y.2) (fun y => [row e y.1 y.2 (l ++ m)]) (fun _ => []) := by
  obtain ⟨i0, hi, hz0, hz1, hz2⟩ := info_parts hinfo
  intro M0 Fs w hh
  obtain ⟨F, rfl⟩ : ∃ F, Fs = [F] := by
    match Fs, hh.ex with
    | [F], _ => exact ⟨F, rfl⟩
    | _ :: _ :: _, h => exact h.2.elim
  obtain ⟨⟨xs, ho, hF, hr⟩, _⟩ := hh.ex
  have hn : l.length + m.length ≤ maxLen := by
    have : (l.length + m.length) * 1 ≤ (l.length + m.length) * bytes := Nat.mul_le_mul_left _ hb0
    simp only [maxLen]; omega
  have hdat := hh.ga (slA B m) (by simp)
  -- the cells of what is appended
  have hM1 : ∀ b, (M0 b ∨ own [F] b) ↔ (M0 b ∨ own [F] b) := fun _ => Iff.rfl
  obtain ⟨news, hnews, hcell⟩ : ∃ news, RowE (fun b => M0 b ∨ own [F] b) w m news ∧ (∀ b o, B = some ⟨b, o, none⟩ → ∀ j u, news[j]? = some u → w.cell? ⟨b, o + j, none⟩ = some u) := by
    -- by the beginnings of m
    have : ∀ k, k ≤ m.length → ∃ news, RowE (fun b => M0 b ∨ own [F] b) w (m.take k) news ∧ (∀ b o, B = some ⟨b, o, none⟩ → ∀ j u, news[j]? = some u → w.cell? ⟨b, o + j, none⟩ = some u) := by
      intro k
      induction k with
      | zero => exact fun _ => ⟨[], by simpa using RowE.nil, fun _ _ _ j u hu => by simp at hu⟩
      | succ k ih =>
        intro hk
        obtain ⟨news, h1, h2⟩ := ih (by omega)
        obtain ⟨b, o, y, hB', _, _, hc, ha⟩ := hdat k m[k] (List.getElem?_eq_getElem (by omega))
        refine ⟨news ++ Rp.enc m[k] y, ?_, fun b' o' hB'' j u hu => ?_⟩
        · rw [List.take_succ_eq_append_getElem (by omega)]
          exact .snoc y h1 ha
        · rcases Nat.lt_or_ge j news.length with hj | hj
          · rw [List.getElem?_append_left hj] at hu
            exact h2 b' o' hB'' j u hu
          · rw [List.getElem?_append_right hj] at hu
            have hlen := h1.length
            simp only [List.length_take, Nat.min_eq_left (show k ≤ m.length by omega)] at hlen
            rw [hB'] at hB''
            cases hB''
            have := hc _ u hu
            rw [hlen] at this
            rw [← this]
            congr 2
            omega
    obtain ⟨news, h1, h2⟩ := this m.length (Nat.le_refl _)
    exact ⟨news, by simpa using h1, h2⟩
  have hlen := hnews.length
  have hrun : ∃ v' w', (Builtin.append_ #[t, t] ty' #[.slice A l.length c, .slice B m.length c']).run P w = .ok v' w' ∧ w'.ownsRow 0 e (Rp.size α) v' (l.length + m.length) (xs ++ news) ∧ w.grownBy w' (Value.slice A l.length c).ownBlock ∧ (v'.ownBlock = (Value.slice A l.length c).ownBlock ∨ v'.ownBlock = some w.heap.size) := by
    cases B with
    | none =>
      have hm0 : m = [] := by
        match m, hdat with
        | [], _ => rfl
        | x :: m', hd => obtain ⟨b, o, y, hB', _⟩ := hd 0 x rfl; cases hB'
      subst hm0
      have hc0 := hB rfl rfl
      subst hc0
      have hnil : news = [] := List.eq_nil_of_length_eq_zero (by simpa using hlen)
      subst hnil
      have h := run_append_owned_none (P := P) w 0 t ty' e i0 (Rp.size α) ht hi _ l.length xs ho
      exact ⟨_, w, h, by simpa using ho, World.grownBy.refl _ _, .inl rfl⟩
    | some ad =>
      have hnews' : ∀ j u, news[j]? = some u → w.cell? (ad.add j) = some u := by
        intro j u hu
        have hjl := (List.getElem?_eq_some_iff.1 hu).1
        have hm0 : 0 < m.length := by
          rcases Nat.eq_zero_or_pos m.length with h0 | h0
          · rw [h0] at hlen; simp at hlen; rw [hlen] at hjl; simp at hjl
          · exact h0
        obtain ⟨b, o, y, hB', _⟩ := hdat 0 m[0] (List.getElem?_eq_getElem hm0)
        cases hB'
        rw [Addr.add_lit]
        exact hcell b o rfl j u hu
      obtain ⟨v', w', h1, h2, h3, _, h5⟩ := run_append_own_at (P := P) w 0 t ty' e i0 z (Rp.size α) bytes ht hi hz0 hz1 hz2 hzs hsz _ l.length xs ho ad m.length c' news hlen hnews' hnews.one hn hl (Nat.zero_le _)
      exact ⟨v', w', h1, h2, h3, h5⟩
  obtain ⟨v', w', h1, h2, h3, h4⟩ := hrun
  have hform : ∃ A' c2, v' = .slice A' (l.length + m.length) c2 := by
    rcases h2.2 with ⟨rfl, h0⟩ | ⟨g, cap, cur, rfl, _⟩
    · exact ⟨none, 0, by rw [h0]⟩
    · exact ⟨_, cap, rfl⟩
  obtain ⟨A', c2, rfl⟩ := hform
  have hown : ∀ b, own [F] b ↔ F b := fun b => by simp [own]
  have hu : Upd F w w' := ⟨h3.os, h3.tape, h3.output, h3.size, fun b hb hn => h3.block b hb (fun e' => hn ((hF b).2 e'.symm))⟩
  have hF' : ∀ b, (Value.slice A' (l.length + m.length) c2).ownBlock = some b → F b ∨ w.heap.size ≤ b := by
    intro b hb
    rcases h4 with h | h
    · rw [h] at hb; exact .inl ((hF b).2 hb)
    · rw [h] at hb; cases hb; exact .inr (Nat.le_refl _)
  have hlt' : ∀ b, (Value.slice A' (l.length + m.length) c2).ownBlock = some b → b < w'.heap.size := by
    intro b hb
    rcases h2.2 with ⟨h, _⟩ | ⟨g, cap, cur, h, _, hg, _⟩
    · rw [h] at hb; simp [Value.ownBlock] at hb
    · rw [h] at hb; simp [Value.ownBlock] at hb; subst hb; exact (Array.getElem?_eq_some_iff.1 hg).1
  refine ⟨(A', c2), [fun b => (Value.slice A' (l.length + m.length) c2).ownBlock = some b], w', h1, hh.one hu hF' hlt' ⟨xs ++ news, ?_, ?_, ?_⟩⟩
  · rw [List.length_append]; exact h2
  · intro x; rw [List.length_append]
  · refine (hr.append hnews).st (fun b hb hn => hu.block b hb (fun hf => hn (.inr ((hown b).2 hf)))) (fun b hb hm => ?_) hu.size
    rcases hm with hm | hm
    · exact .inl hm
    · have hm' : (Value.slice A' (l.length + m.length) c2).ownBlock = some b := by simpa [own] using hm
      rcases hF' b hm' with h | h
      · exact .inr ((hown b).2 h)
      · omega

/-- a slice's literal -/
inductive Enum : Nat → List (Nat × Value) → List Value → Prop
  | d {i} : Enum i [] []
  | t {i v ps vs} : Enum (i + 1) ps vs → Enum i ((i, v) :: ps) (v :: vs)
theorem fill_enum (k : Nat) : ∀ {i : Nat} {ps : List (Nat × Value)} {vs : List Value}, Enum i ps vs → (∀ v ∈ vs, v.cells.size = k) → ∀ cs : Array Value, cs.size = (i + vs.length) * k →
    Instr.fill (fun i => some (i * k, k)) cs ps = some (cs.toList.take (i * k) ++ vs.flatMap (fun v => v.cells.toList)).toArray
  | i, _, _, .d, _, cs, hcs => by
    simp only [Instr.fill, List.flatMap_nil, List.append_nil]
    rw [List.take_of_length_le (by simp [hcs])]
  | i, _, _, .t (v := v) (ps := ps) (vs := vs) h, hv, cs, hcs => by
    have hk := hv v (by simp)
    simp only [List.length_cons] at hcs
    have hle : i * k + k ≤ cs.size := by
      rw [hcs, Nat.add_mul, Nat.add_mul, Nat.one_mul]; omega
    have h1 := foldl_put v.cells.toList 0 (i * k) cs (by simp [hk]; omega)
    have h2 : v.cells.zipIdx = (v.cells.toList.zipIdx).toArray := by apply Array.ext'; simp
    have hl : v.cells.toList.length = k := by simpa using hk
    have hstep : Instr.fill (fun i => some (i * k, k)) cs ((i, v) :: ps) = Instr.fill (fun i => some (i * k, k)) (cs.toList.take (i * k) ++ v.cells.toList ++ cs.toList.drop (i * k + k)).toArray ps := by
      have hno : ¬ (i * k + k > cs.size) := by omega
      rw [Instr.fill]
      simp only [hk, ne_eq, not_true_eq_false, false_or, hno, if_false]
      have h3 := congrArg (fun z => Instr.fill (fun i => some (i * k, k)) z ps) h1
      simp only [Nat.add_zero, hl] at h3
      rw [h2]
      simpa using h3
    rw [hstep, fill_enum k h (fun u hu => hv u (by simp [hu])) _ (by
      simp only [List.size_toArray, List.length_append, List.length_take, List.length_drop, Array.length_toList, hl]
      rw [Nat.min_eq_left (by omega), hcs]
      have e1 : (i + (vs.length + 1)) * k = i * k + vs.length * k + k := by rw [Nat.add_mul, Nat.add_mul]; omega
      have e2 : (i + 1 + vs.length) * k = i * k + k + vs.length * k := by rw [Nat.add_mul, Nat.add_mul]; omega
      omega)]
    congr 2
    simp only [List.flatMap_cons]
    rw [← List.append_assoc]
    congr 1
    have e3 : (i + 1) * k = i * k + k := by rw [Nat.add_mul]; omega
    rw [e3, List.take_append_of_le_length (by simp [hl]; omega)]
    rw [List.take_of_length_le (by simp [hl]; omega)]
/-- values that stand for data -/
inductive RV {α : Type} [Rp α] (Γ : List Asn) : List α → List Value → Prop
  | d : RV Γ [] []
  | t {x l v vs} (y : Rp.Lay α) : v.cells = (Rp.enc x y).toArray → Sub (Rp.asn x y) Γ → RV Γ l vs → RV Γ (x :: l) (v :: vs)
theorem RV.row {α : Type} [Rp α] {M : Nat → Prop} {w : World} {Γ : List Asn} (hg : ∀ p ∈ Γ, p.p M w) : ∀ {l : List α} {vs : List Value}, RV Γ l vs → RowE M w l (vs.flatMap fun v => v.cells.toList)
  | [], _, .d => .nil
  | x :: l, v :: vs, .t y h1 h2 h3 => by
    have ih := h3.row hg
    have h0 : RowE M w [x] (Rp.enc x y) := by simpa using RowE.snoc y RowE.nil (fun p hp => hg p (h2.mem p hp))
    have := h0.append ih
    simpa [List.flatMap_cons, h1] using this
theorem RV.cells {α : Type} [Rp α] {Γ : List Asn} : ∀ {l : List α} {vs : List Value}, RV Γ l vs → (∀ v ∈ vs, v.cells.size = Rp.size α) ∧ vs.length = l.length
  | [], _, .d => by simp
  | x :: l, v :: vs, .t y h1 h2 h3 => by
    obtain ⟨h4, h5⟩ := h3.cells
    refine ⟨fun u hu => ?_, by simp [h5]⟩
    rcases List.mem_cons.1 hu with rfl | hu
    · rw [h1]; simp [Rp.len]
    · exact h4 u hu
theorem o_bsl {α : Type} [Rp α] (l : List α) {t e : TypeId} {z : Value} {parts : List (Nat × Operand)} {ps : List (Nat × Value)} {vs : List Value} {len : Nat} (ht : P.underlying t = some (.slice e)) (he : ∀ w, (sizeOf e).run P w = .ok (Rp.size α) w) (hz : ∀ w, (zeroValue e).run P w = .ok z w)
    (hp : evP σ parts = some ps) (hen : Enum 0 ps vs) (hv : RV Γ l vs) (hlen : l.length = len) (hmax : len * Rp.size α ≤ 16777216) (hmax2 : len ≤ 9223372036854775807) (hd : Nat.blt d n.n = true) :
    OpR P ⟨some d, .buildSlice t len parts.toArray, ty, pos, af, none⟩ (St M0 F0 w0 n σ Ξ Γ) (fun a w => ∃ b, St M0 F0 w0 n ((d, .slice (some ⟨b, 0, none⟩) l.length l.length) :: σ) (row e (some ⟨b, 0, none⟩) l.length l :: Ξ) Γ a w) := by
  subst hlen
  refine OpR.of_run rfl fun a w ⟨hs, Fs, hh⟩ => ?_
  have hm := hs.evP hp
  obtain ⟨hc, hl⟩ := hv.cells
  have h2 : (parts.toArray.map (fun (x : Nat × Operand) => (x.1, a.eval x.2))).toList = ps := by simpa using hm
  have hfill : ∀ cs : Array Value, cs.size = l.length * Rp.size α → Instr.fill (fun i => some (i * Rp.size α, Rp.size α)) cs (parts.toArray.map (fun (x : Nat × Operand) => (x.1, a.eval x.2))).toList = some (vs.flatMap fun v => v.cells.toList).toArray := fun cs hcs => by
    rw [h2, fill_enum (Rp.size α) hen hc cs (by rw [hl, Nat.zero_add]; exact hcs)]
    simp
  have hrow := fun M hg => RV.row (M := M) (w := w) hg hv
  have hlen2 : (vs.flatMap fun v => v.cells.toList).length = l.length * Rp.size α := by
    have := (hrow (fun b => M0 b ∨ own Fs b) hh.ga).length
    exact this
  refine ⟨.slice (some ⟨w.heap.size, 0, none⟩) l.length l.length, w.alloc (.cells (vs.flatMap fun v => v.cells.toList).toArray e), ?_, w.heap.size, hs.put hd, _, hh.alloc' _ _ ?_⟩
  · have hno : ¬ (l.length * Rp.size α > 16777216) := by omega
    have hno' : ¬ (2 ^ 24 < l.length * Rp.size α) := by omega
    by_cases h0 : l.length * Rp.size α = 0
    · have := hfill (Array.map (fun _ => (default : Value)) (Array.range 0)) (by simp [h0])
      simp [execOp, Instr.buildSlice, run_underlying ht, he, h0, newRow] at this ⊢
      rw [this]
      simp
    · have := hfill ((Array.range (l.length * Rp.size α)).map (z.cells[· % z.cells.size]!)) (by simp)
      simp [execOp, Instr.buildSlice, run_underlying ht, he, hz, h0, hno', newRow] at this ⊢
      rw [this]
      simp
  · refine ⟨vs.flatMap fun v => v.cells.toList, ⟨hlen2, .inr ⟨w.heap.size, l.length, (vs.flatMap fun v => v.cells.toList).toArray, rfl, Nat.zero_le _, ?_, Nat.le_refl _, ?_, ?_, ?_⟩⟩, fun x => by simp [Value.ownBlock, eq_comm], ?_⟩
    · show (w.heap.push _)[w.heap.size]? = _
      simp
    · have hpos : l.length ≤ l.length * 16777216 := Nat.le_mul_of_pos_right _ (by omega)
      by_cases hsz : Rp.size α = 0
      · -- the elements have no cells: the length is small all the same
        simp only [maxLen]
        have := hl
        have : l.length ≤ 9223372036854775807 := hmax2
        omega
      · have : l.length * 1 ≤ l.length * Rp.size α := Nat.mul_le_mul_left _ (by omega)
        simp only [maxLen]; omega
    · simp [hlen2]
    · rw [List.take_of_length_le (by simp [hlen2])]
    · exact (hrow _ hh.ga).st (fun b hb _ => Below.heap_alloc w _ b hb) (fun b hb hm => by
        rcases hm with hm | hm
        · exact .inl hm
        · rcases own_cons.1 hm with e' | e'
          · omega
          · exact .inr e') (by simp)
/-- a contract that leaves all memory as it was -/
theorem con_same {f : FuncId} {vs : List Value} {Γi : List Asn} {r : Value} (h : ∀ w, Calls P f vs.toArray w fun e w' => e = .returned r ∧ w' = w) : Con P f vs [] Γi Unit (fun _ => r) (fun _ => []) (fun _ => []) := by
  intro M0 Fs w hh
  refine (h w).mono ?_
  rintro e w' ⟨rfl, rfl⟩
  obtain ⟨rfl⟩ : Fs = [] := by
    match Fs, hh.ex with
    | [], _ => rfl
    | _ :: _, h => exact h.elim
  exact ⟨(), [], rfl, { hh with ga := fun p hp => by cases hp }⟩
/-- a contract that makes memory of its own, and hands back nothing of it -/
theorem con_below {f : FuncId} {vs : List Value} {Γi : List Asn} {r : Value} (h : ∀ M0 w, (∀ p ∈ Γi, p.p M0 w) → Calls P f vs.toArray w fun e w' => e = .returned r ∧ Below w.heap.size w w') : Con P f vs [] Γi Unit (fun _ => r) (fun _ => []) (fun _ => []) := by
  intro M0 Fs w hh
  obtain ⟨rfl⟩ : Fs = [] := by
    match Fs, hh.ex with
    | [], _ => rfl
    | _ :: _, h => exact h.elim
  have hga : ∀ p ∈ Γi, p.p M0 w := fun p hp => p.st _ _ _ _ (hh.ga p hp) (fun _ _ _ => rfl) (fun b _ hb => .inl hb) (Nat.le_refl _)
  refine (h M0 w hga).mono ?_
  rintro e w' ⟨rfl, hb⟩
  exact ⟨(), [], rfl, trivial, List.Pairwise.nil, fun b hb => (own_nil b hb).elim, fun b hb => (own_nil b hb).elim, fun b hb => (own_nil b hb).elim, (fun p hp => by cases hp), Upd.of_below hb _, hh.m0, hh.f0⟩
end
end Go.Sx

end
section
set_option linter.unusedVariables false
set_option linter.unusedSimpArgs false
namespace Go.Sx
open Go Go.RowKit
section
variable {ro : Option Nat} {P : Program} {M0 F0 : Nat → Prop} {w0 : World} {n : Nm} {σ : List (Nat × Value)} {Ξ : List Xsn} {Γ : List Asn} {d : Nat} {ty : TypeId} {pos : String} {af : Array Edge}
/-- append: the first one is a row of one's own, the second one lies in data -/
theorem o_app {α : Type} [Rp α] {x y : Operand} {t e : TypeId} {z : Value} {bytes : Nat} {A B : Option Addr} {c c' : Nat} {l m : List α} {is : List Nat} {Ξ' : List Xsn}
    (ht : P.underlying t = some (.slice e)) (hinfo : (P.info? e).map (fun i => (i.zero, i.size, i.bytes)) = some (some z, Rp.size α, bytes)) (hzs : z.cells.size = Rp.size α) (hsz : 0 < Rp.size α) (hb0 : 0 < bytes)
    (hx : ev σ x = some (.slice A l.length c)) (hy : ev σ y = some (.slice B m.length c')) (hl : (l.length + m.length) * bytes ≤ 140737488355328) (hB : m = [] → B = none → c' = 0) (hs : takeAll is Ξ = some ([row e A c l], Ξ')) (hg : Sub [slA B m] Γ) (hd : Nat.blt d n.n = true) :
    OpR P ⟨some d, .call ⟨.builtin .append, #[x, y], #[t, t]⟩, ty, pos, af, none⟩ (St M0 F0 w0 n σ Ξ Γ) (fun a w => ∃ q : Option Addr × Nat, St M0 F0 w0 n ((d, .slice q.1 (l ++ m).length q.2) :: σ) (row e q.1 q.2 (l ++ m) :: Ξ') Γ a w) := by
  have hloc := loc_app (P := P) (ty' := ty) (α := α) ht hinfo hzs hsz hb0 A c l B c' m hl hB
  refine (o_loc hloc ?_ hs hg hd).mono ?_
  · intro a hsl w v w' hr
    have h1 := hsl.ev hx
    have h2 := hsl.ev hy
    have hm : (#[x, y] : Array Operand).map a.eval = #[.slice A l.length c, .slice B m.length c'] := by simp [h1, h2]
    simp only [execOp, resolve, invoke, builtin, hm]
    simp [hr]
  · rintro a w ⟨q, h⟩
    exact ⟨q, by simpa using h⟩
/-- a call that yields nothing -/
theorem o_call0 {f : FuncId} {args : List Operand} {tys : Array TypeId} {vs : List Value} {Ξi Ξ' : List Xsn} {Γi : List Asn} {X : Type} {rv : X → Value} {Ξo : X → List Xsn} {Γo : X → List Asn} {is : List Nat}
    (hcf : ∀ args w, (callFunc f args).run P w = .ok (.enter f args) w) (hc : Con P f vs Ξi Γi X rv Ξo Γo) (ha : evL σ args = some vs) (hs : takeAll is Ξ = some (Ξi, Ξ')) (hg : Sub Γi Γ) :
    OpR P ⟨none, .call ⟨.value (.func f), args.toArray, tys⟩, ty, pos, af, none⟩ (St M0 F0 w0 n σ Ξ Γ) (fun a w => ∃ x, St M0 F0 w0 n σ (Ξo x ++ Ξ') (Γo x ++ Γ) a w) := by
  refine OpR.of_enter rfl fun a w ⟨hsl, Fs, hh⟩ => ⟨f, vs.toArray, ?_, ?_⟩
  · have hm := hsl.evL ha
    have : args.toArray.map a.eval = vs.toArray := by simp [hm]
    simp [execOp, resolve, Deferred.ofValue, invoke, Act.eval, this, hcf]
  · obtain ⟨Gs, Hs, hp, hin, hr⟩ := hh.select hs hg.mem
    refine (hc _ Gs w hin).mono ?_
    rintro e w' ⟨x, Fs', rfl, hout⟩
    exact ⟨_, rfl, x, hsl.put_none _, _, hh.back hp hr hout⟩
end
/-! strings, sorted -/
def toB (l : List UInt8) : ByteArray := ⟨l.toArray⟩
def ofB (b : ByteArray) : List UInt8 := b.data.toList
theorem toB_ofB (b : ByteArray) : toB (ofB b) = b := rfl
def sortB (l : List ByteArray) : List ByteArray := ((l.map ofB).mergeSort fun x y => decide (x ≤ y)).map toB
theorem sortB_perm (l : List ByteArray) : (sortB l).Perm l := by
  have h := (List.mergeSort_perm (l.map ofB) (fun x y => decide (x ≤ y))).map toB
  have e : (l.map ofB).map toB = l := by simp [Function.comp_def, toB_ofB]
  rw [e] at h
  exact h
theorem sortB_length (l : List ByteArray) : (sortB l).length = l.length := (sortB_perm l).length_eq
theorem sortB_mem {l : List ByteArray} {x : ByteArray} : x ∈ sortB l ↔ x ∈ l := (sortB_perm l).mem_iff
theorem rowE_strs {M : Nat → Prop} {w : World} : ∀ {l : List ByteArray} {xs : List Value}, RowE M w l xs → xs = l.map (fun b => Value.string b)
  | _, _, .nil => rfl
  | _, _, .snoc y h _ => by
    rw [rowE_strs h]; simp [Rp.enc]
theorem strs_rowE {M : Nat → Prop} {w : World} (l : List ByteArray) : RowE M w l (l.map fun b => Value.string b) := by
  have : ∀ (r : List ByteArray), RowE M w r.reverse (r.reverse.map fun b => Value.string b) := by
    intro r
    induction r with
    | nil => exact .nil
    | cons x r ih =>
      simp only [List.reverse_cons, List.map_append, List.map_cons, List.map_nil]
      exact .snoc () ih (fun p hp => by cases hp)
  simpa using this l.reverse
open Go.Sort Go.Proofs in
/-- slices.Sort of strings: a row of one's own -/
theorem con_sort {P : Program} {f : FuncId} (e : TypeId) (A : Option Addr) (c : Nat) (l : List ByteArray) (hl : l.length ≤ 2000000)
    (h0 : ∀ w, Calls P f #[.slice none 0 0] w fun e w' => e = .returned (.tuple #[]) ∧ w' = w)
    (h1 : ∀ (blk cap : Nat) (ss : List (List UInt8)) (w : World), Holds encStr w blk 0 ss.toArray → blk < w.heap.size → ss.length < 4611686018427387904 → Calls P f #[.slice (some ⟨blk, 0, none⟩) ss.length cap] w fun e w' =>
      e = .returned (.tuple #[]) ∧ ∃ n os, w' = grow (putRow encStr (Sort.ahead w n) blk 0 (ss.mergeSort fun x y => decide (x ≤ y)).toArray) os) :
    Con P f [.slice A l.length c] [row e A c l] [] Unit (fun _ => .tuple #[]) (fun _ => [row e A c (sortB l)]) (fun _ => []) := by
  intro M0 Fs w hh
  obtain ⟨F, rfl⟩ : ∃ F, Fs = [F] := by
    match Fs, hh.ex with
    | [F], _ => exact ⟨F, rfl⟩
    | _ :: _ :: _, h => exact h.2.elim
  obtain ⟨⟨xs, ho, hF, hr⟩, _⟩ := hh.ex
  have hxs := rowE_strs hr
  subst hxs
  have henc : (l.map ofB).map encStr = l.map (fun b => Value.string b) := by simp [Function.comp_def, encStr, ofB]
  rcases ho.2 with ⟨hnil, h0l⟩ | ⟨g, cap, cur, hv, hbase, hb, h2, h3, h4, h5⟩
  · obtain ⟨rfl, hl', rfl⟩ : A = none ∧ l.length = 0 ∧ c = 0 := by simpa using hnil
    have hl0 : l = [] := List.eq_nil_of_length_eq_zero hl'
    subst hl0
    refine (h0 w).mono ?_
    rintro en w' ⟨rfl, rfl⟩
    refine ⟨(), [F], rfl, ?_⟩
    refine hh.one (Upd.refl _ _) (fun b h => .inl h) (fun b h => hh.lt b (by simp [own, h])) ?_
    refine ⟨[], ?_, hF, by simpa [sortB] using RowE.nil⟩
    simpa [sortB] using ho
  · obtain ⟨rfl, rfl⟩ : A = some ⟨g, 0, none⟩ ∧ c = cap := by simpa using hv
    have hH : Holds encStr w g 0 (l.map ofB).toArray := by
      refine holds_of_block hb ?_
      rw [List.length_map, henc]
      have : l.length * Rp.size ByteArray = l.length := Nat.mul_one _
      rw [this] at h5
      exact h5
    have hlt : g < w.heap.size := (Array.getElem?_eq_some_iff.1 hb).1
    have hc := h1 g c (l.map ofB) w hH hlt (by simp; omega)
    rw [List.length_map] at hc
    refine hc.mono ?_
    rintro en w' ⟨rfl, k, os, rfl⟩
    refine ⟨(), [F], rfl, ?_⟩
    have hg := grownBy_sorted (w := w) (g := g) (n := k) (os := os) ((l.map ofB).mergeSort fun x y => decide (x ≤ y)).toArray
    have hFg : ∀ b, F b ↔ g = b := fun b => by rw [hF]; simp [Value.ownBlock]
    refine hh.one ⟨hg.os, hg.tape, hg.output, hg.size, fun b hb hn => hg.block b hb (fun e' => hn ((hFg b).2 (by simpa using e'.symm)))⟩ (fun b h => .inl h) (fun b h => Nat.lt_of_lt_of_le (hh.lt b (by simp [own, h])) hg.size) ?_
    refine ⟨(sortB l).map fun b => Value.string b, ?_, ?_, strs_rowE _⟩
    · have hs := ownsRow_sorted (w := w) (base := 0) (g := g) (cap := c) (n := k) (e := e) (os := os) (cur := cur) (ss := l.map ofB) (ts := (l.map ofB).mergeSort fun x y => decide (x ≤ y)) (by simp) (Nat.zero_le _) hb (by simpa using h2) h3 h4
      have e1 : ((l.map ofB).mergeSort fun x y => decide (x ≤ y)).map encStr = (sortB l).map fun b => Value.string b := by
        simp [sortB, Function.comp_def, encStr, toB]
      rw [e1, List.length_map, ← sortB_length l] at hs
      exact hs
    · intro b
      rw [sortB_length]
      exact hF b
end Go.Sx

end
section
set_option linter.unusedVariables false
set_option linter.unusedSimpArgs false
namespace Go.Sx
open Go Go.RowKit Go.Proofs
section
variable {ro : Option Nat} {P : Program} {M0 F0 : Nat → Prop} {w0 : World} {n : Nm} {σ : List (Nat × Value)} {Ξ : List Xsn} {Γ : List Asn} {d : Nat} {ty : TypeId} {pos : String} {af : Array Edge}
theorem p_slnil {T : World → Prop} {x y : Operand} {t e t' : TypeId} {A : Option Addr} {l c : Nat} (ht : P.underlying t = some (.slice e)) (hx : ev σ x = some (.slice A l c)) (hy : ev σ y = some (.slice none 0 0)) :
    Pu P n σ T ⟨some d, .binOp .eql t x y t', ty, pos, af, none⟩ (.bool A.isNone) := fun a hs w _ => by
  have hg : (eqGuard .eql t x y (.slice A l c) (.slice none 0 0)).run P w = .ok () w := by simp [eqGuard]
  have h1 : (binOp .eql t (.slice A l c) (.slice none 0 0)).run P w = .ok (.bool A.isNone) w := by
    simp only [binOp]
    simp [run_equal_slice_nil w t e A l c ht]
  simp [execOp, hs.ev hx, hs.ev hy, hg, h1]
theorem p_slnn {T : World → Prop} {x y : Operand} {t e t' : TypeId} {A : Option Addr} {l c : Nat} (ht : P.underlying t = some (.slice e)) (hx : ev σ x = some (.slice A l c)) (hy : ev σ y = some (.slice none 0 0)) :
    Pu P n σ T ⟨some d, .binOp .neq t x y t', ty, pos, af, none⟩ (.bool !A.isNone) := fun a hs w _ => by
  have hg : (eqGuard .neq t x y (.slice A l c) (.slice none 0 0)).run P w = .ok () w := by simp [eqGuard]
  simp [execOp, hs.ev hx, hs.ev hy, hg, run_neq_slice_nil w t e A l c ht]
/-- two rows of two numbers -/
theorem p_aeq2 {T : World → Prop} {x y : Operand} {t e t' : TypeId} {a1 a2 b1 b2 : Int} (ht : P.underlying t = some (.array 2 e)) (he : P.underlying e = some (.int .i64)) (hi' : (P.info? e).isSome = true) (hc : P.cellsOf e = 1) (hag : ∀ w, (isAgg e).run P w = .ok false w) (hm : P.eqGuardType P.depth t = false)
    (hx : ev σ x = some (.agg #[.int .i64 a1, .int .i64 a2])) (hy : ev σ y = some (.agg #[.int .i64 b1, .int .i64 b2])) :
    Pu P n σ T ⟨some d, .binOp .eql t x y t', ty, pos, af, none⟩ (.bool (decide (a1 = b1) && decide (a2 = b2))) := fun a hs w _ => by
  obtain ⟨i, hi⟩ := Option.isSome_iff_exists.1 hi'
  have hg := run_eqGuard_agg (P := P) (w := w) .eql t x y #[.int .i64 a1, .int .i64 a2] #[.int .i64 b1, .int .i64 b2] hm
  have h1 : (Op.equalIn 10000 t (.agg #[.int .i64 a1, .int .i64 a2]) (.agg #[.int .i64 b1, .int .i64 b2])).run P w = .ok (decide (a1 = b1) && decide (a2 = b2)) w := by
    rw [show (10000 : Nat) = 9999 + 1 from rfl, run_equalIn_array w 9999 _ _ ht hi, hc]
    have hq0 : ∀ (g : Nat) (k m : Int), (Op.equalIn (g + 1) e (.int .i64 k) (.int .i64 m)).run P w = .ok (decide (k = m)) w := fun g k m => by
      simp only [Op.equalIn, Sem.run_bind, run_underlying he, Result.andThen_ok, Sem.run_pure]
      by_cases h : k = m <;> simp [h]
    have hq : ∀ (k m : Int), (Op.equalIn 9999 e (.int .i64 k) (.int .i64 m)).run P w = .ok (decide (k = m)) w := fun k m => hq0 9998 k m
    have hp : ∀ (cs : Array Value) (j : Nat) (v : Value), cs[j]? = some v → (part e cs j).run P w = .ok v w := fun cs j v hj => by
      simp [part, hag, hj]
    simp [List.range, List.range.loop, Op.eqItems, hp _ 0 _ (show (#[Value.int .i64 a1, .int .i64 a2])[0]? = some _ from rfl), hp _ 1 _ (show (#[Value.int .i64 a1, .int .i64 a2])[1]? = some _ from rfl), hp _ 0 _ (show (#[Value.int .i64 b1, .int .i64 b2])[0]? = some _ from rfl), hp _ 1 _ (show (#[Value.int .i64 b1, .int .i64 b2])[1]? = some _ from rfl), hq]
    by_cases h : a1 = b1 <;> by_cases h' : a2 = b2 <;> simp [h, h']
  have h2 := run_eql_struct (P := P) (w := w) t #[.int .i64 a1, .int .i64 a2] #[.int .i64 b1, .int .i64 b2]
  simp [execOp, hs.ev hx, hs.ev hy, hg, h1, h2]
end
theorem nil_len {M0 F0 w0 n σ Ξ Γ} {l : List ByteArray} {a : Act} {w : World} {i : Nat} (hi : At (slA none l) i Γ) (h : St M0 F0 w0 n σ Ξ Γ a w) : l = [] ∧ St M0 F0 w0 n σ Ξ Γ a w := by
  obtain ⟨hs, Fs, hh⟩ := h
  refine ⟨?_, hs, Fs, hh⟩
  have h1 := hh.ga _ (List.mem_of_getElem? hi.get)
  match l, h1 with
  | [], _ => rfl
  | x :: l, h1 => obtain ⟨b, o, y, h, _⟩ := h1 0 x rfl; cases h
theorem fill_mono {f g : Nat → Option (Nat × Nat)} (h : ∀ i x, f i = some x → g i = some x) : ∀ (ps : List (Nat × Value)) (cs : Array Value) (r : Array Value), Instr.fill f cs ps = some r → Instr.fill g cs ps = some r
  | [], cs, r, hr => by simpa [Instr.fill] using hr
  | (i, v) :: ps, cs, r, hr => by
    unfold Instr.fill at hr ⊢
    cases hf : f i with
    | none => simp [hf] at hr
    | some x =>
      obtain ⟨o, z⟩ := x
      rw [h i _ hf]
      simp only [hf] at hr
      split at hr
      · cases hr
      · rename_i hc
        simp only
        rw [if_neg hc]
        exact fill_mono h ps _ r hr
theorem SB.array {P : Program} {t e : TypeId} {len sz : Nat} {pl : List (Nat × Nat)} {zs : List Value} {z : Value} (hz : ∀ w, (zeroValue t).run P w = .ok z w) (hc : z.cells = zs.toArray) (hu : P.underlying t = some (.array len e)) (he : ∀ w, (sizeOf e).run P w = .ok sz w)
    (hpl : ∀ i x, pl[i]? = some x → x = (i * sz, sz)) : SB P t pl zs := by
  intro parts cells hf w
  have hf' : Instr.fill (fun i => some (i * sz, sz)) zs.toArray parts.toList = some cells := fill_mono (fun i x hx => by rw [hpl i x hx]) _ _ _ hf
  unfold Instr.build
  simp only [Sem.run_bind, hz, Result.andThen_ok, run_underlying hu, he, hc]
  rw [hf']
  rfl
theorem nilSl {α : Type} [Rp α] {M0 F0 w0 n σ Ξ Γ} {a : Act} {w : World} (h : St M0 F0 w0 n σ Ξ Γ a w) : St M0 F0 w0 n σ Ξ (slA (α := α) none [] :: Γ) a w := by
  obtain ⟨hs, Fs, hh⟩ := h
  refine ⟨hs, Fs, { hh with ga := fun p hp => ?_ }⟩
  rcases List.mem_cons.1 hp with rfl | hp
  · intro j x hj; simp at hj
  · exact hh.ga p hp
theorem cf {ro : Option Nat} {P : Program} {Q : Exit → Act → World → Prop} {φ : Prop} {S : Act → World → Prop} {c : Code} (k : φ → TrC ro P Q S c) : TrC ro P Q (fun a w => φ ∧ S a w) c := fun a w ⟨h, hS⟩ => k h a w hS
end Go.Sx

end
section
set_option linter.unusedVariables false
namespace Go.Sx
open Go Go.RowKit
section
variable {ro : Option Nat} {P : Program} {M0 F0 : Nat → Prop} {w0 : World} {n : Nm} {σ : List (Nat × Value)} {Ξ : List Xsn} {Γ : List Asn} {d : Nat} {ty : TypeId} {pos : String} {af : Array Edge}
variable {ops : Array Oper} {Q : Exit → Act → World → Prop} {S S' : Act → World → Prop} {ef : List Nat} {TL : List (Nat × Nat × Nat × List Value)} {fuel : Nat} {L : List Nat}
theorem nex {X : Sort _} {e : Exit} {S : X → Act → World → Prop} (k : ∀ x, TrN Q e (S x)) : TrN Q e (fun a w => ∃ x, S x a w) := fun a w ⟨x, h⟩ => k x a w h
/-- a guarded operation that is wanted, where the order is drawn -/
theorem doG {i j t : Nat} {dst : Option Nat} {op : Op} {want b : Bool} {o' : Oper} (hi : ops[i]? = some ⟨dst, op, ty, pos, af, some (j, want)⟩) (hj : ops[j]? = some o') (ht : o'.dst = some t) (hb : look σ t = some (.bool b)) (he : (b == want) = true)
    (h : OpR P ⟨dst, op, ty, pos, af, none⟩ (St M0 F0 w0 n σ Ξ Γ) S') (hT : TOk ops ef (i :: L) S' TL) (k : TrA ro P ops Q ef TL S' fuel (i :: L)) : Does ro P ops Q ef TL (St M0 F0 w0 n σ Ξ Γ) fuel L i := by
  rintro hr hcl a w ⟨hs, hh⟩
  unfold wpOpIn
  simp only [hi]
  obtain ⟨hg, hw⟩ := h (fun a' w' => (∀ k, live .any ops (ef.contains ·) ((lst ops.size L).setIfInBounds i true) k = true → TT TL k w') ∧ wpAnyT ro P .any ops Q (ef.contains ·) (TT TL) fuel ((lst ops.size L).setIfInBounds i true) a' w') Q a w ⟨hs, hh⟩ (fun a' w' hS' => ⟨hT.get a' w' hS', k (hcl.set hr) a' w' hS' (hT.get a' w' hS')⟩)
  have hy : yielded ops a.tmps j = some b := by
    have := hs.val t _ hb
    have h2 : a.tmps[t]? = some (.bool b) := by
      cases h : a.tmps[t]? with
      | none => simp [Array.getD_eq_getD_getElem?, h, undef] at this
      | some v => simpa [Array.getD_eq_getD_getElem?, h] using this
    simp [yielded, hj, ht, h2]
  rw [if_pos (by simpa [Region.wanted, hy] using he)]
  exact hw ro
theorem p_bne {T : World → Prop} {x y : Operand} {t t' : TypeId} {b c : Bool} (ht : P.underlying t = some .bool) (hx : ev σ x = some (.bool b)) (hy : ev σ y = some (.bool c)) :
    Pu P n σ T ⟨some d, .binOp .neq t x y t', ty, pos, af, none⟩ (.bool !(b == c)) :=
  fun a hs w _ => by
    have hg : (eqGuard .neq t x y (.bool b) (.bool c)).run P w = .ok () w := by simp [eqGuard]
    have h1 := run_neq_bool w t b c ht
    simp only [execOp, hs.ev hx, hs.ev hy, hg, Sem.run_bind, Sem.run_pure, Result.andThen_ok, h1]
/-- an element of a row by value -/
theorem p_idxa {T : World → Prop} {x ix : Operand} {t e : TypeId} {len : Nat} {kd : IntKind} {m : Int} {cs : List Value} {v : Value} (j : Nat) (hj : j < len) (hm : m = (j : Int)) (ht : P.underlying t = some (.array len e)) (he : ∀ w, (sizeOf e).run P w = .ok 1 w) (hag : ∀ w, (isAgg e).run P w = .ok false w)
    (hx : ev σ x = some (.agg cs.toArray)) (hix : ev σ ix = some (.int kd m)) (hv : At v j cs) : Pu P n σ T ⟨some d, .index t x ix, ty, pos, af, none⟩ v := by
  subst hm
  intro a hs w _
  have h0 : (0 : Int) ≤ (j : Int) ∧ (j : Int) < (len : Int) := by omega
  have hv' := hv.get
  have hp : (part e cs.toArray j).run P w = .ok v w := by simp [part, hag, hv']
  simp only [execOp, hs.ev hx, hs.ev hix, Instr.index, Sem.run_bind, asIntOf, Sem.run_pure, Result.andThen_ok, run_underlying ht]
  simp [h0, he, hp]
end
end Go.Sx

end
section
set_option linter.unusedVariables false
set_option linter.unusedSimpArgs false
namespace Go.Sx
open Go Go.RowKit Go.Proofs
theorem RowE.split {α : Type} [Rp α] {M : Nat → Prop} {w : World} {l : List α} {xs : List Value} (h : RowE M w l xs) : ∀ l1 l2, l = l1 ++ l2 → ∃ xs1 xs2, xs = xs1 ++ xs2 ∧ RowE M w l1 xs1 ∧ RowE M w l2 xs2 := by
  induction h with
  | nil =>
    intro l1 l2 e
    obtain ⟨rfl, rfl⟩ := List.append_eq_nil_iff.1 e.symm
    exact ⟨[], [], rfl, .nil, .nil⟩
  | @snoc l xs x y h ha ih =>
    intro l1 l2 e
    rcases List.eq_nil_or_concat l2 with rfl | ⟨l2', z, rfl⟩
    · refine ⟨xs ++ Rp.enc x y, [], by simp, ?_, .nil⟩
      rw [← (by simpa using e : l ++ [x] = l1)]
      exact .snoc y h ha
    · have e' : l ++ [x] = (l1 ++ l2') ++ [z] := by simpa using e
      obtain ⟨e1, e2⟩ := List.append_inj' e' rfl
      cases e2
      obtain ⟨xs1, xs2, rfl, g1, g2⟩ := ih l1 l2' e1
      refine ⟨xs1, xs2 ++ Rp.enc x y, by simp, g1, ?_⟩
      rw [List.concat_eq_append]
      exact .snoc y g2 ha
theorem RowE.single {α : Type} [Rp α] {M : Nat → Prop} {w : World} (x : α) (y : Rp.Lay α) (ha : ∀ p ∈ Rp.asn x y, p.p M w) : RowE M w [x] (Rp.enc x y) := by
  have := RowE.snoc y (RowE.nil (M := M) (w := w)) ha
  simpa using this
theorem RowE.set {α : Type} [Rp α] {M : Nat → Prop} {w : World} {l : List α} {xs : List Value} (h : RowE M w l xs) (j : Nat) (hj : j < l.length) (x' : α) (y' : Rp.Lay α) (ha : ∀ p ∈ Rp.asn x' y', p.p M w) :
    RowE M w (l.set j x') (xs.take (j * Rp.size α) ++ Rp.enc x' y' ++ xs.drop (j * Rp.size α + Rp.size α)) := by
  have e1 : l = l.take j ++ ([l[j]] ++ l.drop (j + 1)) := by
    rw [List.singleton_append, ← List.drop_eq_getElem_cons hj, List.take_append_drop]
  obtain ⟨a, bc, rfl, ra, rbc⟩ := h.split _ _ e1
  obtain ⟨b, c, rfl, rb, rc⟩ := rbc.split _ _ rfl
  have la := ra.length
  have lb := rb.length
  rw [List.length_take, Nat.min_eq_left (by omega)] at la
  simp only [List.length_singleton, Nat.one_mul] at lb
  have e2 : l.set j x' = l.take j ++ ([x'] ++ l.drop (j + 1)) := by
    rw [List.set_eq_take_append_cons_drop, if_pos hj]; rfl
  have e3 : (a ++ (b ++ c)).take (j * Rp.size α) = a := by rw [← la, List.take_left']; rfl
  have e4 : (a ++ (b ++ c)).drop (j * Rp.size α + Rp.size α) = c := by
    rw [← la, ← lb, ← List.append_assoc, ← List.length_append, List.drop_left']; rfl
  rw [e2, e3, e4, List.append_assoc]
  exact ra.append ((RowE.single x' y' ha).append rc)
theorem take_put {l vs : List Value} {a N : Nat} (h : a + vs.length ≤ N) (hN : N ≤ l.length) : (l.take a ++ vs ++ l.drop (a + vs.length)).take N = (l.take N).take a ++ vs ++ (l.take N).drop (a + vs.length) := by
  have e1 : (l.take a ++ vs).length = a + vs.length := by
    rw [List.length_append, List.length_take, Nat.min_eq_left (by omega)]
  rw [List.take_append, e1, List.take_of_length_le (by rw [e1]; exact h), List.take_take, Nat.min_eq_left (by omega), List.drop_take]
section
variable {ro : Option Nat} {P : Program} {M0 F0 : Nat → Prop} {w0 : World} {n : Nm} {σ : List (Nat × Value)} {Ξ : List Xsn} {Γ : List Asn} {d : Nat} {ty : TypeId} {pos : String} {af : Array Edge}
variable {ops : Array Oper} {Q : Exit → Act → World → Prop} {S S' : Act → World → Prop}
/-- where a row lies that is not empty -/
theorem rowG {α : Type} [Rp α] {e : TypeId} {A : Option Addr} {c : Nat} {l : List α} {i : Nat} {a : Act} {w : World} (hi : At (row e A c l) i Ξ) (hl : l ≠ []) (h : St M0 F0 w0 n σ Ξ Γ a w) : ∃ g, A = some ⟨g, 0, none⟩ := by
  obtain ⟨hs, Fs, hh⟩ := h
  obtain ⟨F, hF, xs, ho, _, _⟩ := hh.ex.at hi.get
  rcases ho.2 with ⟨_, h0⟩ | ⟨g, cap, cur, hv, _⟩
  · exact absurd (List.eq_nil_of_length_eq_zero h0) hl
  · cases hv; exact ⟨g, rfl⟩
theorem rowC {α : Type} [Rp α] {e : TypeId} {A : Option Addr} {c' : Nat} {l : List α} {i : Nat} {c : Code} (hi : At (row e A c' l) i Ξ) (hl : l ≠ []) (k : ∀ g, A = some ⟨g, 0, none⟩ → TrC ro P Q (St M0 F0 w0 n σ Ξ Γ) c) : TrC ro P Q (St M0 F0 w0 n σ Ξ Γ) c := fun a w h => by
  obtain ⟨g, hg⟩ := rowG hi hl h
  exact k g hg a w h
/-- an element of one's own row -/
theorem rowAt {α : Type} [Rp α] {e : TypeId} {g c : Nat} {l : List α} {i j : Nat} {x : α} {Fs : List (Nat → Prop)} {w : World} (hi : At (row e (some ⟨g, 0, none⟩) c l) i Ξ) (hj : l[j]? = some x) (hh : Hp M0 F0 w0 Ξ Γ Fs w) :
    ∃ y : Rp.Lay α, Is g (0 + j * Rp.size α) (Rp.enc x y) w ∧ ∀ p ∈ Rp.asn x y, p.p (fun b => M0 b ∨ own Fs b) w := by
  obtain ⟨F, hF, xs, ho, _, hr⟩ := hh.ex.at hi.get
  obtain ⟨y, h1, h2⟩ := hr.at j x hj
  refine ⟨y, fun q v hq => ?_, h2⟩
  rcases ho.2 with ⟨h0, _⟩ | ⟨g', cap, cur, hv, _, hb, _, _, hsz, hxs⟩
  · cases h0
  · cases hv
    have h3 := h1 q v hq
    rw [← hxs] at h3
    have hlt := (List.getElem?_eq_some_iff.1 h3).1
    rw [List.length_take] at hlt
    rw [List.getElem?_take_of_lt (by omega)] at h3
    simp only [World.cell?, hb, Option.isSome_none, Bool.false_eq_true, if_false]
    rw [Nat.zero_add, ← Array.getElem?_toList]
    exact h3
theorem o_ldrow {α : Type} [Rp α] {x : Operand} {t e : TypeId} {g c : Nat} {l : List α} {i j : Nat} {z : α} (hag : ∀ w, (isAgg t).run P w = .ok true w) (hsz : ∀ w, (sizeOf t).run P w = .ok (Rp.size α) w) (hx : ev σ x = some (.pointer (some ⟨g, 0 + j * Rp.size α, none⟩)))
    (hi : At (row e (some ⟨g, 0, none⟩) c l) i Ξ) (hj : l[j]? = some z) (hd : Nat.blt d n.n = true) :
    OpR P ⟨some d, .load t x, ty, pos, af, none⟩ (St M0 F0 w0 n σ Ξ Γ) (fun a w => ∃ y : Rp.Lay α, St M0 F0 w0 n ((d, sv z y) :: σ) Ξ (Rp.asn z y ++ Γ) a w) := by
  refine OpR.of_run rfl fun a w ⟨hs, Fs, hh⟩ => ?_
  obtain ⟨y, h1, h2⟩ := rowAt hi hj hh
  refine ⟨sv z y, w, p_lda hag hsz hx (Rp.len z y) a hs w h1, y, hs.put hd, Fs, { hh with ga := fun p hp => ?_ }⟩
  rcases List.mem_append.1 hp with h | h
  · exact h2 p h
  · exact hh.ga p h
theorem o_strow {α : Type} [Rp α] {dst : Option Nat} {x y : Operand} {t e : TypeId} {g c : Nat} {l : List α} {i j : Nat} {z : α} {yz : Rp.Lay α} {v : Value} {Ξ' : List Xsn} (hdst : dst = none) (hsz : ∀ w, (sizeOf t).run P w = .ok (Rp.size α) w) (hx : ev σ x = some (.pointer (some ⟨g, 0 + j * Rp.size α, none⟩))) (hy : ev σ y = some v)
    (hvc : v.cells = (Rp.enc z yz).toArray) (hi : At (row e (some ⟨g, 0, none⟩) c l) i Ξ) (hj : j < l.length) (hs' : SetAt (row e (some ⟨g, 0, none⟩) c (l.set j z)) i Ξ Ξ') (hg : Sub (Rp.asn z yz) Γ) :
    OpR P ⟨dst, .store t x y, ty, pos, af, none⟩ (St M0 F0 w0 n σ Ξ Γ) (St M0 F0 w0 n σ Ξ' Γ) := by
  subst hdst
  refine OpR.of_skip rfl fun a w ⟨hs, Fs, hh⟩ => ?_
  obtain ⟨rfl, _⟩ := hs'.eq
  obtain ⟨F, hF, xs, ho, hFb, hr⟩ := hh.ex.at hi.get
  have hxl := hr.length
  rcases ho.2 with ⟨h0, _⟩ | ⟨g', cap, cur, hv, hbase, hb, hle, hmax, hcs, hxs⟩
  · cases h0
  · cases hv
    have hjs : j * Rp.size α + Rp.size α ≤ l.length * Rp.size α := by
      have : (j + 1) * Rp.size α ≤ l.length * Rp.size α := Nat.mul_le_mul_right _ hj
      rw [Nat.add_mul, Nat.one_mul] at this
      exact this
    have hcap : l.length * Rp.size α ≤ c * Rp.size α := Nat.mul_le_mul_right _ hle
    have hlen := Rp.len z yz
    have hst := run_storeCells_at P g (0 + j * Rp.size α) e (Rp.enc z yz) 0 cur w hb (by rw [hlen]; omega) (fun v hv => Rp.one z yz v hv)
    simp only [Nat.zero_add, Nat.add_zero, hlen] at hst
    refine ⟨_, ?_, hs, Fs, hh.set hF (w' := w.setRow g (cur.toList.take (j * Rp.size α) ++ Rp.enc z yz ++ cur.toList.drop (j * Rp.size α + Rp.size α)).toArray) ⟨rfl, rfl, rfl, by simp, fun b _ hn => setRow_other w g b _ (fun e' => hn ((hFb b).2 (by rw [e']; rfl)))⟩ ?_⟩
    · simp only [execOp, hs.ev hx, hs.ev hy, Instr.storeAt, Instr.sureAddr, storeVar, Sem.run_bind, Sem.run_pure, Result.andThen_ok, hsz, hvc, List.size_toArray, ne_eq, not_true_eq_false, if_false]
      simp [hst, hlen]
    · have hrow := hr.set j hj z yz (fun p hp => hh.ga p (hg.mem p hp))
      refine ⟨_, ⟨?_, .inr ⟨g, c, (cur.toList.take (j * Rp.size α) ++ Rp.enc z yz ++ cur.toList.drop (j * Rp.size α + Rp.size α)).toArray, by rw [List.length_set], hbase, setRow_heap w g _ _ e _ hb, by rw [List.length_set]; exact hle, hmax, ?_, ?_⟩⟩, fun b => by rw [List.length_set]; exact hFb b, hrow.st (fun b hb' hn => setRow_other w g b _ (fun e' => hn (.inr ⟨F, List.mem_of_getElem? hF, (hFb b).2 (by rw [e']; rfl)⟩))) (fun b _ hb' => hb') (by simp)⟩
      · exact hrow.length
      · simp [hlen]; omega
      · rw [List.length_set]
        have hcl : cur.toList.length = cur.size := by simp
        have h1 := take_put (l := cur.toList) (vs := Rp.enc z yz) (a := j * Rp.size α) (N := l.length * Rp.size α) (by rw [hlen]; exact hjs) (by rw [hcl, hcs]; exact hcap)
        rw [hlen, hxs] at h1
        exact h1
end
end Go.Sx

end
section
set_option linter.unusedVariables false
set_option linter.unusedSimpArgs false
namespace Go.Sx
open Go Go.RowKit Go.Proofs
/-- a stretch of data is data -/
theorem slA_sub {α : Type} [Rp α] {A : Option Addr} {l : List α} {lo hi c : Nat} {M : Nat → Prop} {w : World} (h : (slA A l).p M w) (hl : lo ≤ hi) (hh : hi ≤ l.length) (hc : l.length ≤ c) :
    (slA (if c = lo then A else A.map (·.add (lo * Rp.size α))) ((l.drop lo).take (hi - lo))).p M w := by
  intro j x hj
  have hjl : j < hi - lo := by
    have := (List.getElem?_eq_some_iff.1 hj).1
    rw [List.length_take] at this
    omega
  rw [List.getElem?_take_of_lt hjl, List.getElem?_drop] at hj
  obtain ⟨b, o, y, hA, h1, h2, h3, h4⟩ := h (lo + j) x hj
  refine ⟨b, o + lo * Rp.size α, y, ?_, h1, h2, fun i v hv => ?_, h4⟩
  · rw [if_neg (by omega), hA, Option.map_some, Addr.add_lit]
  · have := h3 i v hv
    rw [Nat.add_mul] at this
    rw [← this]
    congr 2
    omega
section
variable {ro : Option Nat} {P : Program} {M0 F0 : Nat → Prop} {w0 : World} {n : Nm} {σ : List (Nat × Value)} {Ξ : List Xsn} {Γ : List Asn} {d : Nat} {ty : TypeId} {pos : String} {af : Array Edge}
variable {ops : Array Oper} {Q : Exit → Act → World → Prop} {S S' : Act → World → Prop}
/-- x[lo:hi] -/
theorem p_sl {T : World → Prop} {x a b : Operand} {t e : TypeId} {A : Option Addr} {len c sz : Nat} {k1 k2 : IntKind} {m1 m2 : Int} (lo hi : Nat) (h1 : lo ≤ hi) (h2 : hi ≤ c) (hm1 : m1 = (lo : Int)) (hm2 : m2 = (hi : Int)) (ht : P.underlying t = some (.slice e)) (he : ∀ w, (sizeOf e).run P w = .ok sz w)
    (hx : ev σ x = some (.slice A len c)) (ha : ev σ a = some (.int k1 m1)) (hb : ev σ b = some (.int k2 m2)) :
    Pu P n σ T ⟨some d, .slice t x (some a) (some b) none, ty, pos, af, none⟩ (.slice (if c = lo then A else A.map (·.add (lo * sz))) (hi - lo) (c - lo)) := by
  subst hm1
  subst hm2
  intro a' hs w _
  have g1 : (0 : Int) ≤ (hi : Int) ∧ (hi : Int) ≤ (c : Int) := by omega
  have g2 : (0 : Int) ≤ (lo : Int) ∧ (lo : Int) ≤ (hi : Int) := by omega
  simp [execOp, hs.ev hx, hs.ev ha, hs.ev hb, Instr.sliceAt, Instr.slice, Instr.sliceBounds, Instr.sliceBound, asIntOf, run_underlying ht, he, g1, g2, h1, h2]
end
end Go.Sx

end
section
set_option linter.unusedVariables false
set_option linter.unusedSimpArgs false
namespace Go.Sx
open Go Go.RowKit Go.Proofs
theorem flat_get (zc : List Value) (hs : 0 < zc.length) : ∀ (k q : Nat), q < k * zc.length → (List.replicate k zc).flatten[q]? = zc[q % zc.length]?
  | 0, q, h => by simp at h
  | k + 1, q, h => by
    rw [List.replicate_succ, List.flatten_cons]
    rcases Nat.lt_or_ge q zc.length with hq | hq
    · rw [List.getElem?_append_left hq, Nat.mod_eq_of_lt hq]
    · rw [List.getElem?_append_right hq, flat_get zc hs k (q - zc.length) (by rw [Nat.add_mul] at h; omega), Nat.mod_eq_sub_mod hq]
theorem made_flat (zc : List Value) (hs : 0 < zc.length) (k : Nat) : (madeCells zc.toArray (k * zc.length)).toList = (List.replicate k zc).flatten := by
  apply List.ext_getElem?
  intro q
  rcases Nat.lt_or_ge q (k * zc.length) with hq | hq
  · rw [flat_get zc hs k q hq]
    have hm : q % zc.length < zc.length := Nat.mod_lt _ hs
    simp [madeCells, hq, hm]
  · rw [List.getElem?_eq_none (by simp [madeCells]; exact hq), List.getElem?_eq_none (by simp [List.length_flatten]; exact hq)]
theorem RowE.rep {α : Type} [Rp α] {M : Nat → Prop} {w : World} (z0 : α) (y0 : Rp.Lay α) (ha : ∀ p ∈ Rp.asn z0 y0, p.p M w) : ∀ k, RowE M w (List.replicate k z0) (List.replicate k (Rp.enc z0 y0)).flatten
  | 0 => by simpa using RowE.nil
  | k + 1 => by
    rw [List.replicate_succ', List.replicate_succ', List.flatten_append, List.flatten_cons, List.flatten_nil, List.append_nil]
    exact .snoc y0 (RowE.rep z0 y0 ha k) ha
section
variable {ro : Option Nat} {P : Program} {M0 F0 : Nat → Prop} {w0 : World} {n : Nm} {σ : List (Nat × Value)} {Ξ : List Xsn} {Γ : List Asn} {d : Nat} {ty : TypeId} {pos : String} {af : Array Edge}
/-- make([]T, k) -/
theorem o_mk {α : Type} [Rp α] (z0 : α) (y0 : Rp.Lay α) (k : Nat) {t e : TypeId} {zv : Value} {bytes : Nat} {lo hi : Operand} {k1 k2 : IntKind} {m1 m2 : Int} (ht : P.underlying t = some (.slice e)) (hinfo : (P.info? e).map (fun i => (i.zero, i.size, i.bytes)) = some (some zv, Rp.size α, bytes))
    (hz : zv.cells = (Rp.enc z0 y0).toArray) (hs0 : 0 < Rp.size α) (ha : ∀ M w, ∀ p ∈ Rp.asn z0 y0, p.p M w) (hm1 : m1 = (k : Int)) (hm2 : m2 = (k : Int)) (h1 : ev σ lo = some (.int k1 m1)) (h2 : ev σ hi = some (.int k2 m2)) (hb : (bytes : Int) * (k : Int) ≤ 281474976710656) (hk : k ≤ 1000000000) (hd : Nat.blt d n.n = true) :
    OpR P ⟨some d, .makeSlice t lo hi, ty, pos, af, none⟩ (St M0 F0 w0 n σ Ξ Γ) (fun a w => ∃ b, St M0 F0 w0 n ((d, .slice (some ⟨b, 0, none⟩) (List.replicate k z0).length k) :: σ) (row e (some ⟨b, 0, none⟩) k (List.replicate k z0) :: Ξ) Γ a w) := by
  subst hm1
  subst hm2
  obtain ⟨i0, hi, hz0, hz1, hz2⟩ := info_parts hinfo
  refine OpR.of_run rfl fun a w ⟨hs, Fs, hh⟩ => ?_
  have hr := run_make (P := P) w t e i0 zv ht hi hz0 k1 k2 (k : Int) (k : Int) (by omega) (Int.le_refl _) (by rw [hz2]; exact hb) (by omega)
  simp only [Int.toNat_natCast, hz1] at hr
  have hlen := Rp.len z0 y0
  have hmade : (madeCells zv.cells (k * Rp.size α)).toList = (List.replicate k (Rp.enc z0 y0)).flatten := by
    rw [hz, ← hlen]
    exact made_flat _ (by rw [hlen]; exact hs0) k
  refine ⟨.slice (some ⟨w.heap.size, 0, none⟩) k k, w.alloc (.cells (madeCells zv.cells (k * Rp.size α)) e), by simp only [execOp, hs.ev h1, hs.ev h2, Sem.run_bind, hr, Result.andThen_ok, Sem.run_pure], w.heap.size, ?_, _, hh.alloc' _ _ ?_⟩
  · simpa using hs.put (v := .slice (some ⟨w.heap.size, 0, none⟩) k k) hd
  · have hrow := RowE.rep (M := fun b => M0 b ∨ own Fs b) (w := w) z0 y0 (fun p hp => ha _ _ p hp) k
    refine ⟨(List.replicate k (Rp.enc z0 y0)).flatten, ⟨hrow.length, .inr ⟨w.heap.size, k, madeCells zv.cells (k * Rp.size α), rfl, Nat.zero_le _, ?_, by simp, ?_, ?_, ?_⟩⟩, fun x => by simp [Value.ownBlock, eq_comm], ?_⟩
    · show (w.heap.push _)[w.heap.size]? = _
      simp
    · simp only [maxLen]; omega
    · exact size_madeCells _ _
    · rw [List.length_replicate, ← hmade, List.take_of_length_le (by simp [size_madeCells])]
    · exact hrow.st (fun b hb _ => Below.heap_alloc w _ b hb) (fun b hb hm => by
        rcases hm with hm | hm
        · exact .inl hm
        · rcases own_cons.1 hm with e' | e'
          · omega
          · exact .inr e') (by simp)
end
end Go.Sx

end
section
set_option linter.unusedVariables false
set_option linter.unusedSimpArgs false
namespace Go.Sx
open Go Go.RowKit

/-! A range over a function: blocks that are no cells, bundles, rounds. -/
/-- a block that is no cells -/
def obj (l : Nat) (o : Obj) : Xsn where
  p F M w := (∀ x, F x ↔ x = l) ∧ w.heap[l]? = some o
  st := by
    intro F M M' w w' ⟨h1, h2⟩ hb _ _
    have hlt : l < w.heap.size := (Array.getElem?_eq_some_iff.1 h2).1
    exact ⟨h1, by rw [hb l hlt (.inl ((h1 l).2 rfl)), h2]⟩
structure Lk where
  fn : FuncId
  tmps : Array Value
  ps : Array Tmp
  assign : Code
  body : Code
  D : Nat
def Lk.loop (κ : Lk) (st : LoopState) (pe : Option Code) : Loop := { state := st, pending := pe, fn := κ.fn, tmps := κ.tmps, params := κ.ps, assign := κ.assign, body := κ.body, defers := κ.D }
def lrec (l : Nat) (κ : Lk) (st : LoopState) (pe : Option Code) : Xsn := obj l (.loop (κ.loop st pe))
def mk (D : Nat) : Deferred := { target := .collected D, args := #[] }
def dfr (D : Nat) : Xsn := obj D (.deferred (some []))

section
variable {M0 F0 : Nat → Prop} {w0 w : World} {Ξ Ξ1 : List Xsn} {Γ Γ1 : List Asn} {Fs : List (Nat → Prop)}
theorem Hp.obj (h : Hp M0 F0 w0 Ξ Γ Fs w) {i l : Nat} {o : Obj} (hi : Ξ[i]? = some (obj l o)) : w.heap[l]? = some o := by
  obtain ⟨F, _, hp⟩ := h.ex.at hi
  exact hp.2
theorem Hp.setObj (h : Hp M0 F0 w0 Ξ Γ Fs w) {i l : Nat} {o : Obj} (hi : Ξ[i]? = some (Sx.obj l o)) (o' : Obj) : Hp M0 F0 w0 (Ξ.set i (Sx.obj l o')) Γ Fs (w.putObj l o') := by
  obtain ⟨F, hF, hp⟩ := h.ex.at hi
  refine h.set hF ⟨rfl, rfl, rfl, by simp, fun k _ hk => World.putObj_heap_other (fun e => hk ((hp.1 k).2 e))⟩ ⟨hp.1, World.putObj_heap_same (Array.getElem?_eq_some_iff.1 hp.2).1⟩
theorem Hp.allocO (h : Hp M0 F0 w0 Ξ Γ Fs w) (o : Obj) : ∃ Fs', Hp M0 F0 w0 (Sx.obj w.heap.size o :: Ξ) Γ Fs' (w.alloc o) := by
  have hsz := h.up.size
  have hold : ∀ b, b < w.heap.size → (w.alloc o).heap[b]? = w.heap[b]? := fun b hb => Below.heap_alloc w _ b hb
  have hM : ∀ b, b < w.heap.size → (M0 b ∨ own ((fun x => x = w.heap.size) :: Fs) b) → (M0 b ∨ own Fs b) := by
    intro b hb hm
    rcases hm with hm | hm
    · exact .inl hm
    · rcases own_cons.1 hm with e | e
      · omega
      · exact .inr e
  refine ⟨(fun x => x = w.heap.size) :: Fs, ⟨⟨⟨fun x => Iff.rfl, ?_⟩, ?_⟩, ?_, ?_, ?_, ?_, ?_, ?_, h.m0, h.f0⟩⟩
  · exact World.alloc_heap_new w o
  · exact h.ex.st (fun b hb _ => hold b hb) hM (by simp)
  · refine List.pairwise_cons.2 ⟨fun G hG b hb hg => ?_, h.dis⟩
    have := h.lt b ⟨G, hG, hg⟩
    omega
  · intro b hb
    rcases own_cons.1 hb with e | e
    · intro hm; have := h.m0 b hm; omega
    · exact h.dis0 b e
  · intro b hb
    rcases own_cons.1 hb with e | e
    · subst e; simp
    · have := h.lt b e; simp; omega
  · intro b hb hlt
    rcases own_cons.1 hb with e | e
    · omega
    · exact h.old b e hlt
  · exact fun p hp => p.st _ _ _ _ (h.ga p hp) (fun b hb _ => hold b hb) hM (by simp)
  · exact h.up.trans (G := fun _ => False) ⟨rfl, rfl, rfl, by simp, fun b hb _ => hold b hb⟩ (fun _ _ h => h.elim)

/-- blocks and facts, bundled as one -/
def bun (Ξ : List Xsn) (Γ : List Asn) : Xsn where
  p F M w := ∃ Fs, (∀ b, F b ↔ own Fs b) ∧ Fs.Pairwise (fun F G => ∀ b, F b → ¬ G b) ∧ all2 M w Ξ Fs ∧ ∀ p ∈ Γ, p.p M w
  st := by
    rintro F M M' w w' ⟨Fs, h1, h2, h3, h4⟩ hb hm hs
    exact ⟨Fs, h1, h2, h3.st (fun b hlt hF => hb b hlt (hF.imp (h1 b).2 id)) hm hs, fun p hp => p.st _ _ _ _ (h4 p hp) (fun b hlt hM => hb b hlt (.inr hM)) hm hs⟩
def exX {ι : Type} (f : ι → Xsn) : Xsn where
  p F M w := ∃ i, (f i).p F M w
  st := fun F M M' w w' ⟨i, h⟩ hb hm hs => ⟨i, (f i).st F M M' w w' h hb hm hs⟩

/-- the same blocks, otherwise put together -/
theorem Hp.re {Fs' : List (Nat → Prop)} {Ξ' : List Xsn} {Γ' : List Asn} (h : Hp M0 F0 w0 Ξ Γ Fs w) (ho : ∀ b, own Fs' b ↔ own Fs b) (hd : Fs'.Pairwise (fun F G => ∀ b, F b → ¬ G b)) (hx : all2 (fun b => M0 b ∨ own Fs b) w Ξ' Fs')
    (hg : ∀ p ∈ Γ', p.p (fun b => M0 b ∨ own Fs b) w) : Hp M0 F0 w0 Ξ' Γ' Fs' w where
  ex := hx.st (fun _ _ _ => rfl) (fun b _ hb => hb.imp id (ho b).1) (Nat.le_refl _)
  dis := hd
  dis0 := fun b hb => h.dis0 b ((ho b).1 hb)
  lt := fun b hb => h.lt b ((ho b).1 hb)
  old := fun b hb => h.old b ((ho b).1 hb)
  ga := fun p hp => p.st _ _ _ _ (hg p hp) (fun _ _ _ => rfl) (fun b _ hb => hb.imp id (ho b).1) (Nat.le_refl _)
  up := h.up
  m0 := h.m0
  f0 := h.f0
theorem all2.split {M : Nat → Prop} {w : World} : ∀ {Ξ1 Ξ : List Xsn} {Fs : List (Nat → Prop)}, all2 M w (Ξ1 ++ Ξ) Fs → ∃ Gs Hs, Fs = Gs ++ Hs ∧ all2 M w Ξ1 Gs ∧ all2 M w Ξ Hs
  | [], Ξ, Fs, h => ⟨[], Fs, rfl, trivial, h⟩
  | x :: Ξ1, Ξ, F :: Fs, h => by
    obtain ⟨Gs, Hs, e, h1, h2⟩ := all2.split (Ξ1 := Ξ1) h.2
    exact ⟨F :: Gs, Hs, by rw [e]; rfl, ⟨h.1, h1⟩, h2⟩
  | x :: Ξ1, Ξ, [], h => h.elim
theorem Hp.unbun (h : Hp M0 F0 w0 (bun Ξ1 Γ1 :: Ξ) Γ Fs w) : ∃ Fs', Hp M0 F0 w0 (Ξ1 ++ Ξ) (Γ1 ++ Γ) Fs' w := by
  obtain ⟨F, Fs2, rfl⟩ : ∃ F Fs2, Fs = F :: Fs2 := by
    cases Fs with
    | nil => exact h.ex.elim
    | cons F Fs2 => exact ⟨F, Fs2, rfl⟩
  obtain ⟨⟨Gs, h1, h2, h3, h4⟩, h5⟩ := h.ex
  have hpw := List.pairwise_cons.1 h.dis
  refine ⟨Gs ++ Fs2, h.re (fun b => by rw [own_append, own_cons, h1 b]) (List.pairwise_append.2 ⟨h2, hpw.2, fun G hG H hH b hg hh => hpw.1 H hH b ((h1 b).2 ⟨G, hG, hg⟩) hh⟩) (h3.append h5) fun p hp => ?_⟩
  rcases List.mem_append.1 hp with hp | hp
  · exact h4 p hp
  · exact h.ga p hp
theorem Hp.bun (h : Hp M0 F0 w0 (Ξ1 ++ Ξ) Γ Fs w) (hg : ∀ p ∈ Γ1, p ∈ Γ) : ∃ Fs', Hp M0 F0 w0 (Sx.bun Ξ1 Γ1 :: Ξ) Γ Fs' w ∧ ∀ b, own Fs' b ↔ own Fs b := by
  obtain ⟨Gs, Hs, rfl, h1, h2⟩ := h.ex.split
  have hpw := List.pairwise_append.1 h.dis
  have ho : ∀ b, own ((fun b => own Gs b) :: Hs) b ↔ own (Gs ++ Hs) b := fun b => by rw [own_append, own_cons]
  refine ⟨(fun b => own Gs b) :: Hs, h.re ho (List.pairwise_cons.2 ⟨fun G hG b hb hg => ?_, hpw.2.1⟩) ⟨⟨Gs, fun _ => Iff.rfl, hpw.1, h1, fun p hp => h.ga p (hg p hp)⟩, h2⟩ h.ga, ho⟩
  obtain ⟨F, hF, hf⟩ := hb
  exact hpw.2.2 F hF G hG b hf hg
theorem Hp.unex {ι : Type} {f : ι → Xsn} (h : Hp M0 F0 w0 (exX f :: Ξ) Γ Fs w) : ∃ i, Hp M0 F0 w0 (f i :: Ξ) Γ Fs w := by
  cases Fs with
  | nil => exact h.ex.elim
  | cons F Fs2 =>
    obtain ⟨⟨i, hi⟩, h5⟩ := h.ex
    exact ⟨i, { h with ex := ⟨hi, h5⟩ }⟩
theorem Hp.exI {ι : Type} {f : ι → Xsn} (i : ι) (h : Hp M0 F0 w0 (f i :: Ξ) Γ Fs w) : Hp M0 F0 w0 (exX f :: Ξ) Γ Fs w := by
  cases Fs with
  | nil => exact h.ex.elim
  | cons F Fs2 => exact { h with ex := ⟨⟨i, h.ex.1⟩, h.ex.2⟩ }
theorem Hp.tail {x : Xsn} (h : Hp M0 F0 w0 (x :: Ξ) Γ Fs w) : ∃ Fs', Hp M0 F0 w0 Ξ Γ Fs' w := by
  cases hF : Fs with
  | nil => subst hF; exact h.ex.elim
  | cons F Fs2 =>
    subst hF
    have hM : ∀ b, b < w.heap.size → (M0 b ∨ own Fs2 b) → (M0 b ∨ own (F :: Fs2) b) := fun b _ hb => hb.imp id (fun h => own_cons.2 (.inr h))
    exact ⟨Fs2, h.ex.2.st (fun _ _ _ => rfl) hM (Nat.le_refl _), (List.pairwise_cons.1 h.dis).2, fun b hb => h.dis0 b (own_cons.2 (.inr hb)), fun b hb => h.lt b (own_cons.2 (.inr hb)), fun b hb => h.old b (own_cons.2 (.inr hb)),
      fun p hp => p.st _ _ _ _ (h.ga p hp) (fun _ _ _ => rfl) hM (Nat.le_refl _), h.up, h.m0, h.f0⟩
theorem Hp.less {Γ' : List Asn} (h : Hp M0 F0 w0 Ξ Γ Fs w) (hg : ∀ p ∈ Γ', p ∈ Γ) : Hp M0 F0 w0 Ξ Γ' Fs w := { h with ga := fun p hp => h.ga p (hg p hp) }
theorem Hp.own0 {Gs : List (Nat → Prop)} (h : Hp M0 (own Gs) w0 Ξ Γ Fs w) {Gs' : List (Nat → Prop)} (ho : ∀ b, own Gs' b ↔ own Gs b) : Hp M0 (own Gs') w0 Ξ Γ Fs w := by
  have : own Gs' = own Gs := funext fun b => propext (ho b)
  rw [this]; exact h
end

/-! ### yield -/
def YCon (P : Program) (l : Nat) (vs : List Value) (A : Xsn) (Γy : List Asn) (T X : Xsn) : Prop :=
  ∀ M0 Fs w, Hp M0 (own Fs) w [A] Γy Fs w → ∃ fn tmps c1 c2, (Instr.yield l vs.toArray).run P w = .ok (.round l fn tmps c1 c2) w ∧
    RoundIn Fence.wide 0 P l fn tmps c1 c2 w (Post P (fun b : Bool => .bool b) (fun b => [if b then T else X]) (fun _ => []) M0 (own Fs) w)
section
variable {ro : Option Nat} {P : Program} {M0 F0 : Nat → Prop} {w0 : World} {n : Nm} {σ : List (Nat × Value)} {Ξ : List Xsn} {Γ : List Asn} {d : Nat} {ty : TypeId} {pos : String} {af : Array Edge}
variable {ops : Array Oper} {Q : Exit → Act → World → Prop} {S S' : Act → World → Prop}
theorem o_yield {fx : Operand} {l : Nat} {args : List Operand} {tys : Array TypeId} {vs : List Value} {A T X : Xsn} {Γy : List Asn} {i : Nat} {Ξ' : List Xsn}
    (hf : ev σ fx = some (.func (.yield l) #[] #[])) (hy : YCon P l vs A Γy T X) (ha : evL σ args = some vs) (hs : takeAll [i] Ξ = some ([A], Ξ')) (hgy : Sub Γy Γ) (hd : Nat.blt d n.n = true) :
    OpR P ⟨some d, .call ⟨.value fx, args.toArray, tys⟩, ty, pos, af, none⟩ (St M0 F0 w0 n σ Ξ Γ) (fun a w => ∃ b : Bool, St M0 F0 w0 n ((d, .bool b) :: σ) ((if b then T else X) :: Ξ') Γ a w) := by
  refine OpR.of_round rfl fun a w ⟨hsl, Fs, hh⟩ => ?_
  obtain ⟨Gs, Hs, hp, hin, hr⟩ := hh.select hs hgy.mem
  obtain ⟨fn, tmps, c1, c2, hrun, hround⟩ := hy _ Gs w hin
  refine ⟨l, fn, tmps, c1, c2, w, ?_, hround.mono ?_⟩
  · have hm := hsl.evL ha
    have : args.toArray.map a.eval = vs.toArray := by simp [hm]
    simp [execOp, resolve, Deferred.ofValue, invoke, hsl.ev hf, this, hrun]
  · rintro e w' ⟨b, Fs', rfl, hout⟩
    exact ⟨_, rfl, b, hsl.put hd, _, hh.back hp hr hout⟩

/-- what is ranged over -/
def Iter (P : Program) (gf : FuncId) (lb : List Value) {α : Type} (enc : α → List Value) (gy : α → List Asn) (D : List α → α → Prop) (S : List α → Prop) (Ξi : List Xsn) (Γi : List Asn) : Prop :=
  ∀ (l : Nat) (J : List α → Xsn) (Jx : Xsn), (∀ pre x, D pre x → YCon P l (enc x) (J pre) (gy x) (J (pre ++ [x])) Jx) →
    Con P gf (.func (.yield l) #[] #[] :: lb) (J [] :: Ξi) Γi {r : Option (List α) // ∀ xs, r = some xs → S xs} (fun _ => .tuple #[]) (fun r => (match r.1 with | some xs => J xs | none => Jx) :: Ξi) (fun _ => [])

/-! ### the rounds -/
def BR (P : Program) (l : Nat) (body : Code) (RQ : Exit → Act → World → Prop) : Act → World → Prop :=
  fun a w => ∃ w2, (Instr.beginRound l).run P w = .ok () w2 ∧ body.wpIn (Fr (some l)) 0 P RQ a w2
def RQ (P : Program) (l : Nat) (T X : Xsn) (M0 F0 : Nat → Prop) (w0 : World) : Exit → Act → World → Prop :=
  roundPost P l (Post P (fun b : Bool => .bool b) (fun b => [if b then T else X]) (fun _ => []) M0 F0 w0)
theorem nbegin {l i : Nat} {κ : Lk} {body : Code} {R : Exit → Act → World → Prop} {Ξ1 : List Xsn} (hs : takeAll [i] Ξ = some ([lrec l κ .ready none], Ξ1))
    (k : TrC (some l) P R (St M0 F0 w0 n σ (lrec l κ .busy none :: Ξ1) Γ) body) : TrN (Exit.then (BR P l body R) Q) .normal (St M0 F0 w0 n σ Ξ Γ) := by
  rintro a w ⟨hsl, Fs, hh⟩
  obtain ⟨Gs, Hs, hp, h1, h2⟩ := hh.ex.takeAll hs
  have hh' : Hp M0 F0 w0 (lrec l κ .ready none :: Ξ1) Γ (Gs ++ Hs) w := hh.re (fun b => (own_perm hp b).symm) (perm_pairwise hp hh.dis) (h1.append h2) hh.ga
  have hl := hh'.obj (i := 0) rfl
  exact ⟨_, run_beginRound hl rfl, k _ _ ⟨hsl, _, hh'.setObj (i := 0) rfl _⟩⟩
theorem nround {ι : Type} {l : Nat} {κ : Lk} {ΞJ : ι → List Xsn} {ΓJ : ι → List Asn} {X : Xsn} (j : ι) {is : List Nat} {Ξr : List Xsn} (hs : takeAll is Ξ = some (lrec l κ .busy none :: ΞJ j, Ξr)) (hg : Sub (ΓJ j) Γ) :
    TrN (RQ P l (exX fun j => bun (lrec l κ .ready none :: ΞJ j) (ΓJ j)) X M0 F0 w0) .normal (St M0 F0 w0 n σ Ξ Γ) := by
  rintro a w ⟨hsl, Fs, hh⟩
  obtain ⟨Gs, hh1⟩ := hh.drop hs hg
  have hl := hh1.obj (i := 0) rfl
  have hh2 : Hp M0 F0 w0 ((lrec l κ .ready none :: ΞJ j) ++ []) (ΓJ j) Gs (w.putObj l (.loop (κ.loop .ready none))) := by rw [List.append_nil]; exact hh1.setObj (i := 0) rfl _
  obtain ⟨Fs', hh3, _⟩ := hh2.bun (Γ1 := ΓJ j) (fun p hp => hp)
  exact ⟨_, _, run_endRound none hl, true, Fs', rfl, (Hp.exI j hh3).less (fun p hp => by cases hp)⟩
theorem nrret {ι : Type} {l : Nat} {κ : Lk} {ΞJ : ι → List Xsn} {ΓJ : ι → List Asn} {T : Xsn} (j : ι) {is : List Nat} {Ξr : List Xsn} (hs : takeAll is Ξ = some (lrec l κ .busy none :: ΞJ j, Ξr)) (hg : Sub (ΓJ j) Γ) :
    TrN (RQ P l T (exX fun j => bun (lrec l κ .done (some .ret) :: ΞJ j) (ΓJ j)) M0 F0 w0) .ret (St M0 F0 w0 n σ Ξ Γ) := by
  rintro a w ⟨hsl, Fs, hh⟩
  obtain ⟨Gs, hh1⟩ := hh.drop hs hg
  have hl := hh1.obj (i := 0) rfl
  have hh2 : Hp M0 F0 w0 ((lrec l κ .done (some .ret) :: ΞJ j) ++ []) (ΓJ j) Gs (w.putObj l (.loop (κ.loop .done (some .ret)))) := by rw [List.append_nil]; exact hh1.setObj (i := 0) rfl _
  obtain ⟨Fs', hh3, _⟩ := hh2.bun (Γ1 := ΓJ j) (fun p hp => hp)
  exact ⟨_, _, run_endRound (some .ret) hl, false, Fs', rfl, (Hp.exI j hh3).less (fun p hp => by cases hp)⟩
theorem xretR {l : Nat} {T X : Xsn} (hQ : ∀ a w, RQ P l T X M0 F0 w0 .ret a w → Q .ret a w) (k : TrN (RQ P l T X M0 F0 w0) .ret S) : TrN Q .ret S := fun a w h => hQ a w (k a w h)

/-! ### the statement -/
def zipσ : List Nat → List Value → List (Nat × Value) → List (Nat × Value)
  | p :: ps, v :: vs, σ => zipσ ps vs ((p, v) :: σ)
  | _, _, σ => σ
theorem Slots.zip {m : Nm} (hm : m.ds = []) : ∀ (ps : List Nat) (vs : List Value) (σ : List (Nat × Value)) (t : Array Value), Slots m σ { tmps := t, defers := [] } → ps.all (Nat.blt · m.n) = true →
    Slots m (zipσ ps vs σ) { tmps := (ps.zip vs).foldl (fun t (x : Nat × Value) => t.setIfInBounds x.1 x.2) t, defers := [] }
  | [], _, σ, t, h, _ => h
  | _ :: _, [], σ, t, h, _ => h
  | p :: ps, v :: vs, σ, t, h, hp => by
    simp only [List.all_cons, Bool.and_eq_true] at hp
    exact Slots.zip hm ps vs _ _ (h.put hp.1) hp.2
theorem takeAt_cons {α : Type} {y : α} : ∀ {i : Nat} {l : List α} {x r}, takeAt i l = some (x, r) → takeAt (i + 1) (y :: l) = some (x, y :: r) := by
  intro i l x r h
  simp [takeAt, h]
theorem takeAll_cons {α : Type} {y : α} : ∀ {is : List Nat} {l xs r : List α}, takeAll is l = some (xs, r) → takeAll (is.map (· + 1)) (y :: l) = some (xs, y :: r)
  | [], l, xs, r, h => by
    simp only [takeAll, Option.some.injEq, Prod.mk.injEq] at h
    obtain ⟨rfl, rfl⟩ := h
    rfl
  | i :: is, l, xs, r, h => by
    simp only [takeAll] at h
    split at h
    · rename_i x l' hz
      split at h
      · rename_i ys l'' hy
        simp only [Option.some.injEq, Prod.mk.injEq] at h
        obtain ⟨rfl, rfl⟩ := h
        have h1 := takeAt_cons (y := y) hz
        have h2 := takeAll_cons (y := y) hy
        simp only [List.map_cons, takeAll, h1, h2]
      · cases h
    · cases h

theorem crng {g : Operand} {ps : List Nat} {assign body : Code} {gf : FuncId} {lb : List Value} {α : Type} {enc : α → List Value} {gy : α → List Asn} {Dx : List α → α → Prop} {C : List α → Prop} {Ξi : List Xsn} {Γi : List Asn}
    (hg : ev σ g = some (.func (.func gf) #[] lb.toArray)) (hcf : ∀ args w, (callFunc gf args).run P w = .ok (.enter gf args) w) (It : Iter P gf lb enc gy Dx C Ξi Γi) (hen : ∀ x, (enc x).length = ps.length) (hps : ps.all (Nat.blt · n.n) = true)
    {ι : List α → Type} (ΞJ : (pre : List α) → ι pre → List Xsn) (ΓJ : (pre : List α) → ι pre → List Asn) (i0 : ι []) {Y : Type} (ΞX : Y → List Xsn) (ΓX : Y → List Asn)
    {is : List Nat} {Ξr : List Xsn} (hs : takeAll is Ξ = some (ΞJ [] i0 ++ Ξi, Ξr)) (hgJ : Sub (ΓJ [] i0) Γ) (hgI : Sub Γi Γ)
    (hb : ∀ M0 F0 w0 l κ pre x, Dx pre x → ∀ i : ι pre, TrC (some l) P (Exit.then (BR P l body (RQ P l (exX fun j : ι (pre ++ [x]) => bun (lrec l κ .ready none :: ΞJ _ j) (ΓJ _ j)) (exX fun y => bun (lrec l κ .done (some .ret) :: ΞX y) (ΓX y)) M0 F0 w0)) (fun _ _ _ => False))
      (St M0 F0 w0 ⟨n.n, []⟩ (zipσ ps (enc x) σ) (lrec l κ .ready none :: ΞJ pre i) (ΓJ pre i ++ gy x)) assign)
    (kN : ∀ D xs, C xs → ∀ i, TrN Q .normal (St M0 F0 w0 ⟨n.n, mk D :: n.ds⟩ σ ((ΞJ xs i ++ Ξi) ++ (dfr D :: Ξr)) (ΓJ xs i ++ Γ)))
    (kR : ∀ D y, TrN Q .ret (St M0 F0 w0 ⟨n.n, mk D :: n.ds⟩ σ ((ΞX y ++ Ξi) ++ (dfr D :: Ξr)) (ΓX y ++ Γ))) :
    TrC none P Q (St M0 F0 w0 n σ Ξ Γ) (.rangeFunc g ps.toArray assign body) := by
  rintro a w ⟨hsl, Fs, hh⟩
  refine wpIn_rangeFunc ?_
  intro fn _
  obtain ⟨κ, hκ⟩ : ∃ κ : Lk, κ = ⟨fn, a.tmps, ps.toArray, assign, body, w.heap.size⟩ := ⟨_, rfl⟩
  obtain ⟨Fs1, h1⟩ := hh.allocO (.deferred (some []))
  obtain ⟨Fs2, h2⟩ := h1.allocO (.loop (κ.loop .ready none))
  rw [World.size_alloc] at h2
  obtain ⟨W1, hW1⟩ : ∃ W1, (w.alloc (.deferred (some []))).alloc (.loop (κ.loop .ready none)) = W1 := ⟨_, rfl⟩
  rw [hW1] at h2
  refine ⟨w.heap.size + 1, [mk w.heap.size], W1, { target := .fn (.func gf) lb.toArray, args := #[.func (.yield (w.heap.size + 1)) #[] #[]] }, W1, gf,
    #[.func (.yield (w.heap.size + 1)) #[] #[]] ++ lb.toArray, W1, ?_, ?_, fun _ _ => trivial, ?_, (fun h => (by cases h)), ?_⟩
  · rw [← hW1, hκ]; exact run_enterLoop_outer _ _ _ _ _
  · simp only [resolve, hsl.ev hg]
    simp [go_sem]
  · simp [invoke, go_sem, hcf]
  generalize hl : w.heap.size + 1 = l at *
  generalize hDD : w.heap.size = D at *
  have hsel := takeAll_cons (y := dfr D) hs
  have hsel2 : takeAll (0 :: is.map (· + 1)) (lrec l κ .ready none :: dfr D :: Ξ) = some (lrec l κ .ready none :: (ΞJ [] i0 ++ Ξi), dfr D :: Ξr) := by
    simp only [takeAll, takeAt, hsel]
  obtain ⟨Gs, Hs, hp, hin, hr⟩ := h2.select (Γi := ΓJ [] i0 ++ Γi) hsel2 (fun p hp => (List.mem_append.1 hp).elim (hgJ.mem p) (hgI.mem p))
  obtain ⟨Gs', hb', ho⟩ := Hp.bun (Ξ1 := lrec l κ .ready none :: ΞJ [] i0) (Γ1 := ΓJ [] i0) hin (fun p hp => List.mem_append.2 (.inl hp))
  have hcon := (((Hp.exI (f := fun i : ι [] => Sx.bun (lrec l κ .ready none :: ΞJ [] i) (ΓJ [] i)) i0 hb').less (Γ' := Γi) (fun p hp => List.mem_append.2 (.inr hp))).own0 ho)
  have hY : ∀ pre x, Dx pre x → YCon P l (enc x) (exX fun i : ι pre => Sx.bun (lrec l κ .ready none :: ΞJ pre i) (ΓJ pre i)) (gy x) (exX fun i : ι (pre ++ [x]) => Sx.bun (lrec l κ .ready none :: ΞJ (pre ++ [x]) i) (ΓJ (pre ++ [x]) i)) (exX fun y => Sx.bun (lrec l κ .done (some .ret) :: ΞX y) (ΓX y)) := by
    intro pre x hx M0' Fs' W hW
    obtain ⟨i, hW1⟩ := hW.unex
    obtain ⟨Gs, hW2⟩ := hW1.unbun
    simp only [List.append_nil] at hW2
    have hl := hW2.obj (i := 0) rfl
    have hy := run_yield (P := P) (args := (enc x).toArray) hl (by simp [Lk.loop, hκ, hen x])
    refine ⟨_, _, _, _, hy, roundIn_of_wpIn trivial ?_⟩
    have hsl' : Slots ⟨n.n, []⟩ (zipσ ps (enc x) σ) { tmps := (ps.zip (enc x)).foldl (fun t (x : Nat × Value) => t.setIfInBounds x.1 x.2) a.tmps, defers := [] } := Slots.zip rfl ps (enc x) σ a.tmps ⟨rfl, hsl.size, hsl.val⟩ hps
    have e1 : (κ.loop .ready none).params.zip (enc x).toArray = (ps.zip (enc x)).toArray := by simp [Lk.loop, hκ]
    rw [e1]
    have e2 : (κ.loop .ready none).tmps = a.tmps := by simp [Lk.loop, hκ]
    have e3 : (κ.loop .ready none).assign = assign := by simp [Lk.loop, hκ]
    have e4 : (κ.loop .ready none).body = body := by simp [Lk.loop, hκ]
    rw [e2, e3, e4]
    have := hb M0' (own Fs') W l κ pre x hx i _ _ ⟨hsl', Gs, hW2⟩
    simp only [List.foldl_toArray']
    exact this
  have hcall := It l _ _ hY _ Gs' W1 hcon
  have eargs : (.func (.yield l) #[] #[] :: lb : List Value).toArray = #[.func (.yield l) #[] #[]] ++ lb.toArray := by simp
  rw [eargs] at hcall
  have hslD : Slots ⟨n.n, mk D :: n.ds⟩ σ { a with defers := [mk D] ++ a.defers } := ⟨by simp [hsl.defers], hsl.size, hsl.val⟩
  refine Fr.calls (hcall.mono ?_)
  rintro e w3 ⟨⟨r, hrS⟩, Fs3, rfl, hout⟩
  cases r with
  | some xs =>
    obtain ⟨i, hout1⟩ := hout.unex
    obtain ⟨Fs4, hout2⟩ := hout1.unbun
    have hl3 := hout2.obj (i := 0) rfl
    have hout3 := hout2.setObj (i := 0) rfl (.loop { κ.loop .ready none with state := .exhausted })
    obtain ⟨Fs5, hout4⟩ := hout3.tail
    have hfin := h2.back hp hr (hout4.own0 (fun b => (ho b).symm))
    simp only [List.append_nil] at hfin
    exact ⟨none, _, run_endLoop hl3 (by simp [Lk.loop]), kN D xs (hrS xs rfl) i _ _ ⟨hslD, _, hfin⟩⟩
  | none =>
    obtain ⟨y, hout1⟩ := hout.unex
    obtain ⟨Fs4, hout2⟩ := hout1.unbun
    have hl3 := hout2.obj (i := 0) rfl
    have hout3 := hout2.setObj (i := 0) rfl (.loop { κ.loop .done (some .ret) with state := .exhausted })
    obtain ⟨Fs5, hout4⟩ := hout3.tail
    have hfin := h2.back hp hr (hout4.own0 (fun b => (ho b).symm))
    simp only [List.append_nil] at hfin
    exact ⟨some .ret, _, run_endLoop hl3 (by simp [Lk.loop]), wpIn_ret (kR D y _ _ ⟨hslD, _, hfin⟩)⟩

/-! ### a function's end, with marks -/
inductive Dfr : List Deferred → List Xsn → List Xsn → Prop
  | d {A : List Xsn} : Dfr [] A A
  | c {D : Nat} {ds : List Deferred} {i : Nat} {A A1 A2 : List Xsn} : takeAll [i] A = some ([dfr D], A1) → Dfr ds A1 A2 → Dfr (mk D :: ds) A A2
theorem leavesM {fn : Func} {tmps : Array Value} {R : Ending → World → Prop} {ds : List Deferred} {Ξ2 : List Xsn} (hD : Dfr ds Ξ Ξ2) :
    ∀ {Fs w}, Hp M0 F0 w0 Ξ Γ Fs w → (∀ Fs w, Hp M0 F0 w0 Ξ2 Γ Fs w → LeavesInM Fence.wide 0 P fn tmps R [] .returning w) → LeavesInM Fence.wide 0 P fn tmps R ds .returning w := by
  induction hD with
  | d => exact fun h k => k _ _ h
  | @c D ds i A A1 A2 hs _ ih =>
    intro Fs w hh k
    obtain ⟨Gs, Hs, hp, h1, h2⟩ := hh.ex.takeAll hs
    have hh' : Hp M0 F0 w0 (dfr D :: A1) Γ (Gs ++ Hs) w := hh.re (fun b => (own_perm hp b).symm) (perm_pairwise hp hh.dis) (h1.append h2) hh.ga
    have hl := hh'.obj (i := 0) rfl
    have hh2 := hh'.setObj (i := 0) rfl (.deferred none)
    refine ⟨by simp, .inl ⟨D, _, rfl, run_takeDeferred hl, ?_⟩⟩
    obtain ⟨Fs6, h6⟩ := hh2.tail
    exact ih h6 k
theorem rretm {fn : Func} {X : Type} {rv : X → Value} {Ξo : X → List Xsn} {Γo : X → List Asn} {Ξ1 : List Xsn} (hD : Dfr n.ds Ξ Ξ1) (x : X) {is : List Nat} {Ξr : List Xsn} {vs : List Value} {e : Exit} (he : e = .ret ∨ e = .normal) (hr : Res P σ Ξ1 fn.results.toList vs) (hv : packV vs = rv x)
    (hs : takeAll is Ξ1 = some (Ξo x, Ξr)) (hg : Sub (Γo x) Γ) : TrN (BP P fn (Post P rv Ξo Γo M0 F0 w0)) e (St M0 F0 w0 n σ Ξ Γ) := by
  rintro a w ⟨hsl, Fs, hh⟩
  have key : LeavesInM Fence.wide 0 P fn a.tmps (Post P rv Ξo Γo M0 F0 w0) a.defers .returning w := by
    rw [hsl.defers]
    refine leavesM hD hh fun Fs' w' h' => ?_
    have h1 := run_results (hr.run hsl h')
    obtain ⟨Gs, hh'⟩ := h'.drop hs hg
    rw [hv] at h1
    exact ⟨_, h1, x, Gs, rfl, hh'⟩
  rcases he with rfl | rfl
  · exact key
  · exact key
end
end Go.Sx

end
section
set_option linter.unusedVariables false
set_option linter.unusedSimpArgs false
namespace Go.Sx
open Go Go.RowKit
theorem At.of_get {α : Type} {x : α} : ∀ {i : Nat} {l : List α}, l[i]? = some x → At x i l
  | 0, y :: l, h => by
    have : y = x := by simpa using h
    subst this; exact .z
  | i + 1, y :: l, h => .s (At.of_get (by simpa using h))
  | _, [], h => by simp at h
/-! One's own row, some of whose elements are known as they lie; slices of it. -/
def rowPin {α : Type} [Rp α] (e : TypeId) (g c : Nat) (l : List α) (pins : List (Nat × α × Rp.Lay α)) : Xsn where
  p F M w := (row e (some ⟨g, 0, none⟩) c l).p F M w ∧ F g ∧ g < w.heap.size ∧ ∀ t ∈ pins, ∀ i v, (Rp.enc t.2.1 t.2.2)[i]? = some v → w.cell? ⟨g, 0 + t.1 * Rp.size α + i, none⟩ = some v
  st := by
    rintro F M M' w w' ⟨h1, h2, h3, h4⟩ hb hm hs
    refine ⟨(row e _ c l).st F M M' w w' h1 hb hm hs, h2, Nat.lt_of_lt_of_le h3 hs, fun t ht i v hv => ?_⟩
    rw [World.cell?_of_block (w := w) (hb g h3 (.inl h2))]
    exact h4 t ht i v hv
section
variable {ro : Option Nat} {P : Program} {M0 F0 : Nat → Prop} {w0 : World} {n : Nm} {σ : List (Nat × Value)} {Ξ Ξ' : List Xsn} {Γ : List Asn} {d : Nat} {ty : TypeId} {pos : String} {af : Array Edge}
variable {ops : Array Oper} {Q : Exit → Act → World → Prop} {S S' : Act → World → Prop}
/-- an exclusive fact gives way to another one of the same blocks -/
theorem Hp.swapX {Fs : List (Nat → Prop)} {w : World} (h : Hp M0 F0 w0 Ξ Γ Fs w) {i : Nat} {x x' : Xsn} (hi : Ξ[i]? = some x) (hx : ∀ F, (∀ b, F b → own Fs b) → x.p F (fun b => M0 b ∨ own Fs b) w → x'.p F (fun b => M0 b ∨ own Fs b) w) : Hp M0 F0 w0 (Ξ.set i x') Γ Fs w := by
  obtain ⟨F, hF, hp⟩ := h.ex.at hi
  exact h.set hF (Upd.refl _ _) (hx F (fun b hb => ⟨F, List.mem_of_getElem? hF, hb⟩) hp)
theorem pin0 {α : Type} [Rp α] {e : TypeId} {g c : Nat} {l : List α} {i : Nat} {a : Act} {w : World} (hi : At (row e (some ⟨g, 0, none⟩) c l) i Ξ) (hs : SetAt (rowPin e g c l []) i Ξ Ξ') (h : St M0 F0 w0 n σ Ξ Γ a w) : St M0 F0 w0 n σ Ξ' Γ a w := by
  obtain ⟨hsl, Fs, hh⟩ := h
  obtain ⟨rfl, _⟩ := hs.eq
  refine ⟨hsl, Fs, hh.swapX hi.get fun F hF hp => ⟨hp, ?_, ?_, by simp⟩⟩
  · obtain ⟨xs, ho, hb, _⟩ := hp
    exact (hb g).2 rfl
  · obtain ⟨xs, ho, hb, _⟩ := hp
    exact hh.lt g (hF g ((hb g).2 rfl))
theorem pinS {α : Type} [Rp α] {e : TypeId} {g c : Nat} {l : List α} {pins : List (Nat × α × Rp.Lay α)} {i : Nat} (j : Nat) {z : α} {a : Act} {w : World} (hi : At (rowPin e g c l pins) i Ξ) (hj : l[j]? = some z)
    (h : St M0 F0 w0 n σ Ξ Γ a w) : ∃ y, St M0 F0 w0 n σ (Ξ.set i (rowPin e g c l ((j, z, y) :: pins))) (Rp.asn z y ++ Γ) a w := by
  obtain ⟨hsl, Fs, hh⟩ := h
  obtain ⟨F, hF, hp⟩ := hh.ex.at hi.get
  have hh1 := hh.swapX (x' := row e (some ⟨g, 0, none⟩) c l) hi.get (fun _ _ h => h.1)
  have hlt : i < Ξ.length := (List.getElem?_eq_some_iff.1 hi.get).1
  have hi1 : (Ξ.set i (row e (some ⟨g, 0, none⟩) c l))[i]? = some (row e (some ⟨g, 0, none⟩) c l) := by simp [hlt]
  obtain ⟨y, h1, h2⟩ := rowAt (Ξ := Ξ.set i (row e (some ⟨g, 0, none⟩) c l)) (i := i) (At.of_get hi1) hj hh1
  refine ⟨y, hsl, Fs, ?_⟩
  have hh2 := hh.swapX (x' := rowPin e g c l ((j, z, y) :: pins)) hi.get (fun F hF hp => ⟨hp.1, hp.2.1, hp.2.2.1, fun t ht k v hv => by
    rcases List.mem_cons.1 ht with rfl | ht
    · exact h1 k v hv
    · exact hp.2.2.2 t ht k v hv⟩)
  exact { hh2 with ga := fun p hp => (List.mem_append.1 hp).elim (h2 p) (hh.ga p) }
theorem pinC {α : Type} [Rp α] {e : TypeId} {g c : Nat} {l : List α} {pins : List (Nat × α × Rp.Lay α)} {i : Nat} {Ξy : Rp.Lay α → List Xsn} (j : Nat) {z : α} {cd : Code} (hi : At (rowPin e g c l pins) i Ξ) (hj : l[j]? = some z) (hs : ∀ y, SetAt (rowPin e g c l ((j, z, y) :: pins)) i Ξ (Ξy y))
    (k : ∀ y, TrC ro P Q (St M0 F0 w0 n σ (Ξy y) (Rp.asn z y ++ Γ)) cd) : TrC ro P Q (St M0 F0 w0 n σ Ξ Γ) cd := fun a w h => by
  obtain ⟨y, hy⟩ := pinS j hi hj h
  rw [← (hs y).eq.1] at hy
  exact k y a w hy
theorem unpin {α : Type} [Rp α] {e : TypeId} {g c : Nat} {l : List α} {pins : List (Nat × α × Rp.Lay α)} {i : Nat} {a : Act} {w : World} (hi : At (rowPin e g c l pins) i Ξ) (hs : SetAt (row e (some ⟨g, 0, none⟩) c l) i Ξ Ξ') (h : St M0 F0 w0 n σ Ξ Γ a w) : St M0 F0 w0 n σ Ξ' Γ a w := by
  obtain ⟨hsl, Fs, hh⟩ := h
  obtain ⟨rfl, _⟩ := hs.eq
  exact ⟨hsl, Fs, hh.swapX hi.get fun _ _ hp => hp.1⟩
theorem isPin {α : Type} [Rp α] {e : TypeId} {g c : Nat} {l : List α} {pins : List (Nat × α × Rp.Lay α)} {i j : Nat} {z : α} {y : Rp.Lay α} (hi : At (rowPin e g c l pins) i Ξ) (ht : (j, z, y) ∈ pins) : ∀ a w, St M0 F0 w0 n σ Ξ Γ a w → Is g (0 + j * Rp.size α) (Rp.enc z y) w := by
  rintro a w ⟨_, Fs, hh⟩ i v hv
  obtain ⟨F, hF, hp⟩ := hh.ex.at hi.get
  exact hp.2.2.2 _ ht i v hv
/-- a row is not longer than it may be -/
theorem rowLe {α : Type} [Rp α] {e : TypeId} {A : Option Addr} {c : Nat} {l : List α} {i : Nat} {a : Act} {w : World} (hi : At (row e A c l) i Ξ) (h : St M0 F0 w0 n σ Ξ Γ a w) : l.length ≤ c := by
  obtain ⟨hsl, Fs, hh⟩ := h
  obtain ⟨F, hF, xs, ho, _, _⟩ := hh.ex.at hi.get
  rcases ho.2 with ⟨h0, h1⟩ | ⟨g', cap, cur, hv, hbase, hb, hle, hmax, hcs, hxs⟩
  · omega
  · cases hv; exact hle
theorem rowLeC {α : Type} [Rp α] {e : TypeId} {A : Option Addr} {c : Nat} {l : List α} {i : Nat} {cd : Code} (hi : At (row e A c l) i Ξ) (k : l.length ≤ c → TrC ro P Q (St M0 F0 w0 n σ Ξ Γ) cd) : TrC ro P Q (St M0 F0 w0 n σ Ξ Γ) cd := fun a w h => k (rowLe hi h) a w h
theorem p_slh {T : World → Prop} {x b : Operand} {t e : TypeId} {A : Option Addr} {len c sz : Nat} {k2 : IntKind} {m2 : Int} (hi : Nat) (h2 : hi ≤ c) (hm2 : m2 = (hi : Int)) (ht : P.underlying t = some (.slice e)) (he : ∀ w, (sizeOf e).run P w = .ok sz w)
    (hx : ev σ x = some (.slice A len c)) (hb : ev σ b = some (.int k2 m2)) :
    Pu P n σ T ⟨some d, .slice t x none (some b) none, ty, pos, af, none⟩ (.slice (if c = 0 then A else A.map (·.add (0 * sz))) (hi - 0) (c - 0)) := by
  subst hm2
  intro a' hs w _
  have g1 : (0 : Int) ≤ (hi : Int) ∧ (hi : Int) ≤ (c : Int) := by omega
  simp [execOp, hs.ev hx, hs.ev hb, Instr.sliceAt, Instr.slice, Instr.sliceBounds, Instr.sliceBound, asIntOf, run_underlying ht, he, g1, h2]
theorem p_sll {T : World → Prop} {x a : Operand} {t e : TypeId} {A : Option Addr} {len c sz : Nat} {k1 : IntKind} {m1 : Int} (lo : Nat) (h1 : lo ≤ len) (h2 : len ≤ c) (hm1 : m1 = (lo : Int)) (ht : P.underlying t = some (.slice e)) (he : ∀ w, (sizeOf e).run P w = .ok sz w)
    (hx : ev σ x = some (.slice A len c)) (ha : ev σ a = some (.int k1 m1)) :
    Pu P n σ T ⟨some d, .slice t x (some a) none none, ty, pos, af, none⟩ (.slice (if c = lo then A else A.map (·.add (lo * sz))) (len - lo) (c - lo)) := by
  subst hm1
  intro a' hs w _
  have g1 : (0 : Int) ≤ (len : Int) ∧ (len : Int) ≤ (c : Int) := by omega
  have g2 : (0 : Int) ≤ (lo : Int) ∧ (lo : Int) ≤ (len : Int) := by omega
  simp [execOp, hs.ev hx, hs.ev ha, Instr.sliceAt, Instr.slice, Instr.sliceBounds, Instr.sliceBound, asIntOf, run_underlying ht, he, g1, g2, h1, h2]
/-- a stretch of data, as data -/
theorem subS {α : Type} [Rp α] {A : Option Addr} {l l' : List α} {c : Nat} {a : Act} {w : World} (lo hi : Nat) (hg : In (slA A l) Γ) (h1 : lo ≤ hi) (h2 : hi ≤ l.length) (hc : l.length ≤ c) (e : (l.drop lo).take (hi - lo) = l') (h : St M0 F0 w0 n σ Ξ Γ a w) :
    St M0 F0 w0 n σ Ξ (slA (if c = lo then A else A.map (·.add (lo * Rp.size α))) l' :: Γ) a w := by
  obtain ⟨hs, Fs, hh⟩ := h
  refine ⟨hs, Fs, { hh with ga := fun p hp => ?_ }⟩
  rcases List.mem_cons.1 hp with rfl | hp
  · rw [← e]; exact slA_sub (hh.ga _ hg.mem) h1 h2 hc
  · exact hh.ga p hp
end
end Go.Sx

end
section
set_option linter.unusedVariables false
set_option linter.unusedSimpArgs false
namespace Go.Sx
open Go Go.RowKit Go.Proofs
section
variable {ro : Option Nat} {P : Program} {M0 F0 : Nat → Prop} {w0 : World} {n : Nm} {σ : List (Nat × Value)} {Ξ Ξ' : List Xsn} {Γ : List Asn} {d : Nat} {ty : TypeId} {pos : String} {af : Array Edge}
theorem rowE_ints {M : Nat → Prop} {w : World} {m : List Int} : RowE M w m (m.map fun x => Value.int .i64 x) := by
  have : ∀ r : List Int, RowE M w r.reverse (r.reverse.map fun x => Value.int .i64 x) := by
    intro r
    induction r with
    | nil => exact .nil
    | cons x r ih =>
      simp only [List.reverse_cons, List.map_append, List.map_cons, List.map_nil]
      exact .snoc () ih (fun p hp => by cases hp)
  simpa using this m.reverse
/-- copy(dst, src) of ints: dst is one's own, both are as long -/
theorem o_cpy {x y : Operand} {t t2 e : TypeId} {g c c' i : Nat} {B : Option Addr} {l m : List Int} (ht : P.underlying t = some (.slice e)) (hsz : (P.info? e).map (·.size) = some 1)
    (hx : ev σ x = some (.slice (some ⟨g, 0, none⟩) l.length c)) (hy : ev σ y = some (.slice B m.length c')) (hlen : l.length = m.length) (hi : At (row (α := Int) e (some ⟨g, 0, none⟩) c l) i Ξ) (hs' : SetAt (row (α := Int) e (some ⟨g, 0, none⟩) c m) i Ξ Ξ') (hg : Sub [slA B m] Γ) (hd : Nat.blt d n.n = true) :
    OpR P ⟨some d, .call ⟨.builtin .copy, #[x, y], #[t, t2]⟩, ty, pos, af, none⟩ (St M0 F0 w0 n σ Ξ Γ) (St M0 F0 w0 n ((d, goInt m.length) :: σ) Ξ' Γ) := by
  refine OpR.of_run rfl fun a w ⟨hs, Fs, hh⟩ => ?_
  obtain ⟨rfl, _⟩ := hs'.eq
  obtain ⟨F, hF, xs, ho, hFb, hr⟩ := hh.ex.at hi.get
  have hxl := hr.length
  have h1 := hs.ev hx
  have h2 := hs.ev hy
  have hm : (#[x, y] : Array Operand).map a.eval = #[.slice (some ⟨g, 0, none⟩) l.length c, .slice B m.length c'] := by simp [h1, h2]
  rcases ho.2 with ⟨h0, _⟩ | ⟨g', cap, cur, hv, hbase, hb, hle, hmax, hcs, hxs⟩
  · cases h0
  · cases hv
    by_cases hm0 : m = []
    · subst hm0
      have hl0 : l = [] := List.eq_nil_of_length_eq_zero (by simpa using hlen)
      subst hl0
      have hrun := run_copy_none (P := P) w t t2 ty e (some ⟨g, 0, none⟩) B 0 c 0 c' ht hsz rfl
      refine ⟨goInt 0, w, ?_, hs.put hd, Fs, ?_⟩
      · simp only [execOp, resolve, invoke, builtin, hm]
        simp only [List.length_nil] at hrun ⊢
        simp [hrun]
      · have hset : Ξ.set i (row (α := Int) e (some ⟨g, 0, none⟩) c []) = Ξ := by
          apply List.ext_getElem?
          intro j
          have := hi.get
          have hlt := (List.getElem?_eq_some_iff.1 this).1
          by_cases hij : i = j
          · subst hij; rw [List.getElem?_set_self hlt, this]
          · rw [List.getElem?_set_ne hij]
        rw [hset]; exact hh
    · have hdat := hh.ga (slA B m) (hg.mem _ (by simp))
      have hpos : 0 < m.length := List.length_pos_iff.2 hm0
      obtain ⟨b, o, _, hB, _, _, _, _⟩ := hdat 0 m[0] (List.getElem?_eq_getElem hpos)
      subst hB
      have hsrc : ∀ j v, (m.map fun x => Value.int .i64 x)[j]? = some v → w.cell? ((⟨b, o, none⟩ : Addr).add j) = some v := by
        intro j v hv
        rw [List.getElem?_map, Option.map_eq_some_iff] at hv
        obtain ⟨z, hz, rfl⟩ := hv
        obtain ⟨b', o', y, hB', _, _, hc, _⟩ := hdat j z hz
        cases hB'
        have := hc 0 (.int .i64 z) rfl
        rw [Addr.add_lit]
        simpa [Rp.size] using this
      have hcap : m.length ≤ cur.size := by rw [hcs, ← hlen]; simpa [Rp.size] using hle
      have hrun := run_copy_row (P := P) w t t2 ty e g 0 l.length c ⟨b, o, none⟩ m.length c' cur e (m.map fun x => Value.int .i64 x) ht hsz hb (by rw [List.length_map, hlen]; simp) hsrc (by simpa using hcap) (fun v hv => by
        rw [List.mem_map] at hv
        obtain ⟨z, _, rfl⟩ := hv
        rfl)
      refine ⟨goInt m.length, _, ?_, hs.put hd, Fs, hh.set hF (w' := w.setRow g (cur.toList.take 0 ++ (m.map fun x => Value.int .i64 x) ++ cur.toList.drop (0 + (m.map fun x => Value.int .i64 x).length)).toArray) ⟨rfl, rfl, rfl, by simp, fun b _ hn => setRow_other w g b _ (fun e' => hn ((hFb b).2 (by rw [e']; rfl)))⟩ ?_⟩
      · simp only [execOp, resolve, invoke, builtin, hm]
        rw [List.length_map] at hrun
        simp [hrun]
      · refine ⟨m.map fun x => Value.int .i64 x, ⟨by simp [Rp.size], .inr ⟨g, c, (cur.toList.take 0 ++ (m.map fun x => Value.int .i64 x) ++ cur.toList.drop (0 + (m.map fun x => Value.int .i64 x).length)).toArray, rfl, hbase, setRow_heap w g _ _ e _ hb, by rw [← hlen]; exact hle, hmax, ?_, ?_⟩⟩, fun b => by rw [← hlen]; exact hFb b, rowE_ints⟩
        · rw [← hcs]; simp; omega
        · simp [Rp.size]
end
end Go.Sx

end
section
set_option linter.unusedVariables false
set_option linter.unusedSimpArgs false
namespace Go.Sx
open Go Go.RowKit
section
variable {ro : Option Nat} {P : Program} {ops : Array Oper} {Q : Exit → Act → World → Prop} {ef : List Nat} {TL : List (Nat × Nat × Nat × List Value)} {fuel : Nat} {L : List Nat} {S S' : Act → World → Prop}
variable {M0 F0 : Nat → Prop} {w0 : World} {n : Nm} {σ : List (Nat × Value)} {Ξ : List Xsn} {Γ : List Asn} {d : Nat} {ty : TypeId} {pos : String} {af : Array Edge}
/-- a guard that was itself passed over, where the order is drawn -/
theorem tksu (i : Nat) {o : Op} {j : Nat} {want : Bool} {o' : Oper} {t : Nat} (hi : ops[i]? = some ⟨some d, o, ty, pos, af, some (j, want)⟩) (hck : (Region.noSelect ops && Region.free .any ops (lst ops.size L) i && (Region.ready .any ops (lst ops.size L)).contains i && !ef.contains i) = true)
    (hQ : ∀ c a w, Q (.panic c) (a.put (some d) undef) w → Q (.panic c) a w) (hj : ops[j]? = some o') (ht : o'.dst = some t) (hb : look σ t = some undef) (hd : Nat.blt d n.n = true)
    (k : TrA ro P ops Q ef TL (St M0 F0 w0 n ((d, undef) :: σ) Ξ Γ) fuel (i :: L)) : TrA ro P ops Q ef TL (St M0 F0 w0 n σ Ξ Γ) (fuel + 1) L := by
  simp only [Bool.and_eq_true, Bool.not_eq_true'] at hck
  obtain ⟨⟨⟨h1, h2⟩, h3⟩, h4⟩ := hck
  rintro hcl a w ⟨hs, hh⟩ hTw
  have h3' : i ∈ Region.ready .any ops (lst ops.size L) := by simpa using h3
  have hy := yielded_undef hj ht hb hs
  refine wpAnyT_first hi (Region.noSelect_spec h1) hQ h4 fuel _ a w hcl (Region.free_spec hi h2) h3' (.inr ⟨by simp [Region.wanted, hy], rfl⟩) hTw ?_
  refine k (hcl.set h3') _ _ ⟨hs.put hd, hh⟩ (fun k hk => hTw k ?_)
  refine List.all_eq_true.2 fun j hj => ?_
  by_cases hij : i = j
  · subst hij; simp only [h4]; simp
  · have := List.all_eq_true.1 hk j hj
    rw [show lst ops.size (i :: L) = (lst ops.size L).setIfInBounds i true from rfl] at this
    rwa [getD_set_ne false hij] at this
end
end Go.Sx

end
section
set_option linter.unusedVariables false
set_option linter.unusedSimpArgs false
namespace Go.Sx
open Go Go.RowKit
/-! The checks of a walk through a region that draws its order, cheap. -/
def memb : List Nat → Nat → Bool
  | [], _ => false
  | x :: L, j => match Nat.beq x j with
    | true => true
    | false => memb L j
def rdyB (md : Region.Mode) (L : List Nat) (o : Oper) (i : Nat) : Bool := match memb L i with
  | true => false
  | false => o.after.toList.all fun e => match memb L e.on with
    | true => true
    | false => !Region.binds md e
def freeGo (md : Region.Mode) (ops : Array Oper) (L : List Nat) (i : Nat) (oi : Oper) : List Oper → Nat → Bool
  | [], _ => true
  | oj :: l, j => match (match Nat.beq j i with
      | true => true
      | false => match memb L j with
        | true => true
        | false => match oj.after.toList.any (fun e => match Nat.beq e.on i with | true => Region.binds md e | false => false) with
          | true => true
          | false => oi.apart ops oj) with
    | true => freeGo md ops L i oi l (j + 1)
    | false => false
def noSelB : List Oper → Bool
  | [] => true
  | o :: l => match o.op with
    | .select .. => false
    | _ => noSelB l
def readyGo (md : Region.Mode) (L : List Nat) : List Oper → Nat → List Nat
  | [], _ => []
  | o :: l, j => match rdyB md L o j with
    | true => j :: readyGo md L l (j + 1)
    | false => readyGo md L l (j + 1)
def ckT (md : Region.Mode) (l : List Oper) (L ef : List Nat) (i : Nat) (oi : Oper) : Bool := match memb ef i with
  | true => false
  | false => match rdyB md L oi i with
    | true => freeGo md l.toArray L i oi l 0
    | false => false
def EdgeOk (l : List Oper) : Prop := ∀ (j : Nat) (o : Oper), l[j]? = some o → ∀ e ∈ o.after, e.on < l.length
theorem memb_iff : ∀ {L : List Nat} {j : Nat}, memb L j = true ↔ j ∈ L
  | [], j => by simp [memb]
  | x :: L, j => by
    unfold memb
    split
    · rename_i h; have := Nat.eq_of_beq_eq_true h; simp [this]
    · rename_i h; have := Nat.ne_of_beq_eq_false h; rw [memb_iff]; simp [Ne.symm this]
theorem lst_size (n : Nat) : ∀ L, (lst n L).size = n
  | [] => by simp [lst]
  | i :: L => by simp [lst, lst_size n L]
theorem getD_lst {n : Nat} : ∀ {L : List Nat} {j : Nat} {d : Bool}, j < n → (lst n L).getD j d = memb L j
  | [], j, d, h => by simp [lst, memb, h]
  | i :: L, j, d, h => by
    unfold lst memb
    split
    · rename_i hb; have := Nat.eq_of_beq_eq_true hb; subst this
      have : i < (lst n L).size := by rw [lst_size]; exact h
      simp [this]
    · rename_i hb; have := Nat.ne_of_beq_eq_false hb
      rw [getD_set_ne d this]
      exact getD_lst h
theorem getD_lst' {n : Nat} {L : List Nat} {j : Nat} : (lst n L).getD j false = (decide (j < n) && memb L j) := by
  by_cases h : j < n
  · rw [getD_lst h]; simp [h]
  · simp [h]
    have : (lst n L).size ≤ j := by rw [lst_size]; omega
    simp [Array.getElem?_eq_none this]
theorem rdyB_spec {md : Region.Mode} {L : List Nat} {o : Oper} {i : Nat} (h : rdyB md L o i = true) : memb L i = false ∧ ∀ e ∈ o.after, Region.binds md e = true → memb L e.on = true := by
  unfold rdyB at h
  split at h
  · cases h
  · rename_i h0
    refine ⟨h0, fun e he hb => ?_⟩
    have := List.all_eq_true.1 h e (Array.mem_toList_iff.2 he)
    split at this
    · assumption
    · rw [hb] at this; cases this
theorem rdyB_mk {md : Region.Mode} {L : List Nat} {o : Oper} {i : Nat} (h0 : memb L i = false) (h : ∀ e ∈ o.after, Region.binds md e = true → memb L e.on = true) : rdyB md L o i = true := by
  unfold rdyB
  rw [h0]
  refine List.all_eq_true.2 fun e he => ?_
  split
  · rfl
  · rename_i hm
    cases hb : Region.binds md e with
    | false => rfl
    | true => rw [h e (Array.mem_toList_iff.1 he) hb] at hm; cases hm
theorem freeGo_spec {md : Region.Mode} {ops : Array Oper} {L : List Nat} {i : Nat} {oi : Oper} : ∀ {l : List Oper} {k : Nat}, freeGo md ops L i oi l k = true → ∀ j oj, l[j]? = some oj → k + j ≠ i → memb L (k + j) = false →
    (∀ e ∈ oj.after, Region.binds md e = true → e.on ≠ i) → oi.apart ops oj = true
  | [], k, h, j, oj, hj, _, _, _ => by simp at hj
  | o :: l, k, h, 0, oj, hj, hne, hm, he => by
    have : o = oj := by simpa using hj
    subst this
    unfold freeGo at h
    split at h
    · rename_i hc
      split at hc
      · rename_i hb; exact absurd (Nat.eq_of_beq_eq_true hb) hne
      · split at hc
        · rename_i hb; rw [Nat.add_zero] at hm; rw [hm] at hb; cases hb
        · split at hc
          · rename_i hb
            obtain ⟨e, he1, he2⟩ := List.any_eq_true.1 hb
            split at he2
            · rename_i hb2; exact absurd (Nat.eq_of_beq_eq_true hb2) (he e (Array.mem_toList_iff.1 he1) he2)
            · cases he2
          · exact hc
    · cases h
  | o :: l, k, h, j + 1, oj, hj, hne, hm, he => by
    unfold freeGo at h
    split at h
    · exact freeGo_spec (l := l) (k := k + 1) h j oj (by simpa using hj) (by omega) (by rw [show k + 1 + j = k + (j + 1) by omega]; exact hm) he
    · cases h
theorem noSelB_spec : ∀ {l : List Oper}, noSelB l = true → ∀ (j : Nat) (o : Oper) (cs : Array SelectCase) (b : Bool), l[j]? = some o → o.op ≠ .select cs b
  | [], _, j, o, cs, b, hj => by simp at hj
  | o :: l, h, 0, oj, cs, b, hj => by
    have : o = oj := by simpa using hj
    subst this
    intro e
    unfold noSelB at h
    rw [e] at h
    cases h
  | o :: l, h, j + 1, oj, cs, b, hj => by
    refine noSelB_spec (l := l) ?_ j oj cs b (by simpa using hj)
    unfold noSelB at h
    split at h
    · cases h
    · exact h
theorem readyGo_spec {md : Region.Mode} {L : List Nat} : ∀ {l : List Oper} {k j : Nat} {o : Oper}, l[j]? = some o → rdyB md L o (k + j) = true → k + j ∈ readyGo md L l k
  | [], k, j, o, hj, _ => by simp at hj
  | o :: l, k, 0, oj, hj, h => by
    have : o = oj := by simpa using hj
    subst this
    unfold readyGo
    rw [Nat.add_zero] at h
    rw [h]; simp
  | o :: l, k, j + 1, oj, hj, h => by
    have ih := readyGo_spec (l := l) (k := k + 1) (j := j) (by simpa using hj) (by rw [show k + 1 + j = k + (j + 1) by omega]; exact h)
    rw [show k + 1 + j = k + (j + 1) by omega] at ih
    unfold readyGo
    split
    · exact List.mem_cons_of_mem _ ih
    · exact ih
section
variable {ro : Option Nat} {P : Program} {l : List Oper} {Q : Exit → Act → World → Prop} {ef : List Nat} {TL : List (Nat × Nat × Nat × List Value)} {fuel : Nat} {L : List Nat} {S S' : Act → World → Prop}
variable {M0 F0 : Nat → Prop} {w0 : World} {n : Nm} {σ : List (Nat × Value)} {Ξ : List Xsn} {Γ : List Asn} {d : Nat} {ty : TypeId} {pos : String} {af : Array Edge}
theorem ready_of {j : Nat} (h : j ∈ Region.ready .any l.toArray (lst l.toArray.size L)) : j ∈ readyGo .any L l 0 := by
  obtain ⟨h1, o, ho, h2⟩ := mem_ready.1 h
  have hlt : j < l.toArray.size := (Array.getElem?_eq_some_iff.1 ho).1
  rw [getD_lst hlt] at h1
  have ho' : l[j]? = some o := by simpa using ho
  have := readyGo_spec (md := .any) (L := L) (k := 0) ho' (rdyB_mk (by simpa using h1) (fun e he hb => by
    have := h2 e he hb
    rw [getD_lst'] at this
    simp only [Bool.and_eq_true] at this
    exact this.2))
  simpa using this
theorem ready_mk {i : Nat} {oi : Oper} (hi : l.toArray[i]? = some oi) (h : rdyB .any L oi i = true) (hL : ∀ e ∈ oi.after, Region.binds .any e = true → e.on < l.toArray.size) : i ∈ Region.ready .any l.toArray (lst l.toArray.size L) := by
  obtain ⟨h1, h2⟩ := rdyB_spec h
  refine mem_ready.2 ⟨by rw [getD_lst (Array.getElem?_eq_some_iff.1 hi).1]; exact h1, oi, hi, fun e he hb => ?_⟩
  rw [getD_lst']
  have h3 := hL e he hb
  simp only [Bool.and_eq_true, decide_eq_true_eq]
  exact ⟨h3, h2 e he hb⟩
/-- the begin of a region, its checks made once -/
structure TrB (ro : Option Nat) (P : Program) (l : List Oper) (Q : Exit → Act → World → Prop) (ef : List Nat) (TL : List (Nat × Nat × Nat × List Value)) (S : Act → World → Prop) (fuel : Nat) (L : List Nat) : Prop where
  h : noSelB l = true → EdgeOk l → TrA ro P l.toArray Q ef TL S fuel L
def okE (l : List Oper) : Bool := l.all fun o => o.after.toList.all fun e => Nat.blt e.on l.length
theorem cdB {id : Nat} (ef : List Nat) (TL : List (Nat × Nat × Nat × List Value)) (hm : P.follows .mixedOrders = true) (hs : noSelB l = true) (he : okE l = true) (hT : TOk l.toArray ef [] (St M0 F0 w0 n σ Ξ Γ) TL) (k : TrB ro P l Q ef TL (St M0 F0 w0 n σ Ξ Γ) l.length []) :
    TrC ro P Q (St M0 F0 w0 n σ Ξ Γ) (.region id l.toArray true) :=
  cd ef TL hm hT (k.h hs fun j o ho e hm => by
    have h1 := List.all_eq_true.1 he o (List.mem_of_getElem? ho)
    have h2 := List.all_eq_true.1 h1 e (Array.mem_toList_iff.2 hm)
    simpa [Nat.blt_eq] using h2)
theorem tkB (i : Nat) {T : World → Prop} {o : Op} {v : Value} {g : Option (Nat × Bool)} (hi : l.toArray[i]? = some ⟨some d, o, ty, pos, af, g⟩) (hck : ckT .any l L ef i ⟨some d, o, ty, pos, af, g⟩ = true)
    (hQ : ∀ c a w, Q (.panic c) (a.put (some d) v) w → Q (.panic c) a w) (hg : ∀ a, Slots n σ a → Region.wanted ⟨some d, o, ty, pos, af, g⟩ (yielded l.toArray a.tmps) = true) (hT : ∀ w, TT TL i w → T w) (hp : Pu P n σ T ⟨some d, o, ty, pos, af, none⟩ v) (hd : Nat.blt d n.n = true)
    (k : TrB ro P l Q ef TL (St M0 F0 w0 n ((d, v) :: σ) Ξ Γ) fuel (i :: L)) : TrB ro P l Q ef TL (St M0 F0 w0 n σ Ξ Γ) (fuel + 1) L := by
  refine ⟨fun hs he => ?_⟩
  have hi' : l[i]? = some ⟨some d, o, ty, pos, af, g⟩ := by simpa using hi
  unfold ckT at hck
  split at hck
  · cases hck
  · rename_i h4
    split at hck
    · rename_i hr
      have h3' := ready_mk hi hr (fun e hm _ => by simpa using he i _ hi' e hm)
      have h4' : ef.contains i = false := by
        rw [Bool.eq_false_iff]; intro hc
        rw [memb_iff.2 (by simpa using hc)] at h4; cases h4
      rintro hcl a w ⟨hsl, hh⟩ hTw
      refine wpAnyT_first hi (fun j o cs b ho => noSelB_spec hs j o cs b (by simpa using ho)) hQ h4' fuel _ a w hcl (fun j oj hj hne hun hno => ?_) h3' (.inl ⟨hg a hsl, fun w' hw' => hp a hsl w' (hT w' hw')⟩) hTw ?_
      · have hlt := (Array.getElem?_eq_some_iff.1 hj).1
        rw [getD_lst hlt] at hun
        exact freeGo_spec hck j oj (by simpa using hj) (by simpa using hne) (by simpa using hun) hno
      · refine (k.h hs he) (hcl.set h3') _ _ ⟨hsl.put hd, hh⟩ (fun k hk => hTw k ?_)
        refine List.all_eq_true.2 fun j hj => ?_
        by_cases hij : i = j
        · subst hij; simp only [h4']; simp
        · have := List.all_eq_true.1 hk j hj
          rw [show lst l.toArray.size (i :: L) = (lst l.toArray.size L).setIfInBounds i true from rfl] at this
          rwa [getD_set_ne false hij] at this
    · cases hck
theorem tksB (i : Nat) {o : Op} {j : Nat} {want b : Bool} {o' : Oper} {t : Nat} (hi : l.toArray[i]? = some ⟨some d, o, ty, pos, af, some (j, want)⟩) (hck : ckT .any l L ef i ⟨some d, o, ty, pos, af, some (j, want)⟩ = true)
    (hQ : ∀ c a w, Q (.panic c) (a.put (some d) undef) w → Q (.panic c) a w) (hj : l.toArray[j]? = some o') (ht : o'.dst = some t) (hb : look σ t = some (.bool b)) (hne : (b == want) = false) (hd : Nat.blt d n.n = true)
    (k : TrB ro P l Q ef TL (St M0 F0 w0 n ((d, undef) :: σ) Ξ Γ) fuel (i :: L)) : TrB ro P l Q ef TL (St M0 F0 w0 n σ Ξ Γ) (fuel + 1) L := by
  refine ⟨fun hs he => ?_⟩
  have hi' : l[i]? = some ⟨some d, o, ty, pos, af, some (j, want)⟩ := by simpa using hi
  unfold ckT at hck
  split at hck
  · cases hck
  · rename_i h4
    split at hck
    · rename_i hr
      have h3' := ready_mk hi hr (fun e hm _ => by simpa using he i _ hi' e hm)
      have h4' : ef.contains i = false := by
        rw [Bool.eq_false_iff]; intro hc
        rw [memb_iff.2 (by simpa using hc)] at h4; cases h4
      rintro hcl a w ⟨hsl, hh⟩ hTw
      have hy : yielded l.toArray a.tmps j = some b := by
        have := hsl.val t _ hb
        have h2 : a.tmps[t]? = some (.bool b) := by
          cases h : a.tmps[t]? with
          | none => simp [Array.getD_eq_getD_getElem?, h, undef] at this
          | some v => simpa [Array.getD_eq_getD_getElem?, h] using this
        simp only [yielded, hj, ht, Option.bind_some, h2]
      refine wpAnyT_first hi (fun j o cs b ho => noSelB_spec hs j o cs b (by simpa using ho)) hQ h4' fuel _ a w hcl (fun j oj hj hne hun hno => ?_) h3' (.inr ⟨by simp [Region.wanted, hy, hne], rfl⟩) hTw ?_
      · have hlt := (Array.getElem?_eq_some_iff.1 hj).1
        rw [getD_lst hlt] at hun
        exact freeGo_spec hck j oj (by simpa using hj) (by simpa using hne) (by simpa using hun) hno
      · refine (k.h hs he) (hcl.set h3') _ _ ⟨hsl.put hd, hh⟩ (fun k hk => hTw k ?_)
        refine List.all_eq_true.2 fun j hj => ?_
        by_cases hij : i = j
        · subst hij; simp only [h4']; simp
        · have := List.all_eq_true.1 hk j hj
          rw [show lst l.toArray.size (i :: L) = (lst l.toArray.size L).setIfInBounds i true from rfl] at this
          rwa [getD_set_ne false hij] at this
    · cases hck
theorem tksuB (i : Nat) {o : Op} {j : Nat} {want : Bool} {o' : Oper} {t : Nat} (hi : l.toArray[i]? = some ⟨some d, o, ty, pos, af, some (j, want)⟩) (hck : ckT .any l L ef i ⟨some d, o, ty, pos, af, some (j, want)⟩ = true)
    (hQ : ∀ c a w, Q (.panic c) (a.put (some d) undef) w → Q (.panic c) a w) (hj : l.toArray[j]? = some o') (ht : o'.dst = some t) (hb : look σ t = some undef) (hd : Nat.blt d n.n = true)
    (k : TrB ro P l Q ef TL (St M0 F0 w0 n ((d, undef) :: σ) Ξ Γ) fuel (i :: L)) : TrB ro P l Q ef TL (St M0 F0 w0 n σ Ξ Γ) (fuel + 1) L := by
  refine ⟨fun hs he => ?_⟩
  have hi' : l[i]? = some ⟨some d, o, ty, pos, af, some (j, want)⟩ := by simpa using hi
  unfold ckT at hck
  split at hck
  · cases hck
  · rename_i h4
    split at hck
    · rename_i hr
      have h3' := ready_mk hi hr (fun e hm _ => by simpa using he i _ hi' e hm)
      have h4' : ef.contains i = false := by
        rw [Bool.eq_false_iff]; intro hc
        rw [memb_iff.2 (by simpa using hc)] at h4; cases h4
      rintro hcl a w ⟨hsl, hh⟩ hTw
      have hy := yielded_undef hj ht hb hsl
      refine wpAnyT_first hi (fun j o cs b ho => noSelB_spec hs j o cs b (by simpa using ho)) hQ h4' fuel _ a w hcl (fun j oj hj hne hun hno => ?_) h3' (.inr ⟨by simp [Region.wanted, hy], rfl⟩) hTw ?_
      · have hlt := (Array.getElem?_eq_some_iff.1 hj).1
        rw [getD_lst hlt] at hun
        exact freeGo_spec hck j oj (by simpa using hj) (by simpa using hne) (by simpa using hun) hno
      · refine (k.h hs he) (hcl.set h3') _ _ ⟨hsl.put hd, hh⟩ (fun k hk => hTw k ?_)
        refine List.all_eq_true.2 fun j hj => ?_
        by_cases hij : i = j
        · subst hij; simp only [h4']; simp
        · have := List.all_eq_true.1 hk j hj
          rw [show lst l.toArray.size (i :: L) = (lst l.toArray.size L).setIfInBounds i true from rfl] at this
          rwa [getD_set_ne false hij] at this
    · cases hck
def DoesB (ro : Option Nat) (P : Program) (l : List Oper) (Q : Exit → Act → World → Prop) (ef : List Nat) (TL : List (Nat × Nat × Nat × List Value)) (S : Act → World → Prop) (fuel : Nat) (L : List Nat) (i : Nat) : Prop :=
  noSelB l = true → EdgeOk l → Does ro P l.toArray Q ef TL S fuel L i
theorem doRB {i : Nat} {o : Oper} (hi : l.toArray[i]? = some o) (h : OpR P o S S') (hT : TOk l.toArray ef (i :: L) S' TL) (k : TrB ro P l Q ef TL S' fuel (i :: L)) : DoesB ro P l Q ef TL S fuel L i :=
  fun hs he => doR hi h hT (k.h hs he)
theorem doGB {i j t : Nat} {dst : Option Nat} {op : Op} {want b : Bool} {o' : Oper} (hi : l.toArray[i]? = some ⟨dst, op, ty, pos, af, some (j, want)⟩) (hj : l.toArray[j]? = some o') (ht : o'.dst = some t) (hb : look σ t = some (.bool b)) (he : (b == want) = true)
    (h : OpR P ⟨dst, op, ty, pos, af, none⟩ (St M0 F0 w0 n σ Ξ Γ) S') (hT : TOk l.toArray ef (i :: L) S' TL) (k : TrB ro P l Q ef TL S' fuel (i :: L)) : DoesB ro P l Q ef TL (St M0 F0 w0 n σ Ξ Γ) fuel L i :=
  fun hs he' => doG hi hj ht hb he h hT (k.h hs he')
theorem dfB (i : Nat) (hr : readyGo .any L l 0 = [i]) (h : DoesB ro P l Q ef TL S fuel L i) : TrB ro P l Q ef TL S (fuel + 1) L := by
  refine ⟨fun hs he hcl a w hS hT => ⟨fun h0 => ?_, fun j hj => ?_⟩⟩
  · exfalso
    have hi : i ∈ readyGo .any L l 0 := by rw [hr]; simp
    exact absurd h0 (ready_ne hi he)
  · have := ready_of hj
    rw [hr] at this
    have : j = i := by simpa using this
    subst this
    exact h hs he hj hcl a w hS
where
  ready_ne {i : Nat} (hi : i ∈ readyGo .any L l 0) (he : EdgeOk l) : Region.ready .any l.toArray (lst l.toArray.size L) ≠ [] := by
    have key : ∀ (m : List Oper) (k : Nat), i ∈ readyGo .any L m k → ∃ j o, m[j]? = some o ∧ i = k + j ∧ rdyB .any L o i = true := by
      intro m
      induction m with
      | nil => intro k h; simp [readyGo] at h
      | cons o m ih =>
        intro k h
        unfold readyGo at h
        split at h
        · rename_i hb
          rcases List.mem_cons.1 h with rfl | h
          · exact ⟨0, o, rfl, rfl, hb⟩
          · obtain ⟨j, o', h1, h2, h3⟩ := ih (k + 1) h
            exact ⟨j + 1, o', by simpa using h1, by omega, h3⟩
        · obtain ⟨j, o', h1, h2, h3⟩ := ih (k + 1) h
          exact ⟨j + 1, o', by simpa using h1, by omega, h3⟩
    obtain ⟨j, o, h1, h2, h3⟩ := key l 0 hi
    have hij : i = j := by omega
    subst hij
    have := ready_mk (l := l) (L := L) (by simpa using h1) h3 (fun e hm _ => by simpa using he i o h1 e hm)
    intro h0
    rw [h0] at this
    cases this
theorem dallB {is : List Nat} (hr : readyGo .any L l 0 = is) (hne : is.isEmpty = false) (h : ∀ i ∈ is, DoesB ro P l Q ef TL S fuel L i) : TrB ro P l Q ef TL S (fuel + 1) L := by
  refine ⟨fun hs he hcl a w hS hT => ⟨fun h0 => ?_, fun j hj => ?_⟩⟩
  · exfalso
    cases is with
    | nil => cases hne
    | cons i is =>
      have hi : i ∈ readyGo .any L l 0 := by rw [hr]; simp
      exact absurd h0 (dfB.ready_ne hi he)
  · have := ready_of hj
    rw [hr] at this
    exact h j this hs he hj hcl a w hS
theorem dnB {fuel : Nat} (hr : readyGo .any L l 0 = []) (k : TrN Q .normal S) : TrB ro P l Q ef TL S fuel L := by
  refine ⟨fun hs he => dn ?_ k⟩
  cases h : Region.ready .any l.toArray (lst l.toArray.size L) with
  | nil => rfl
  | cons x xs =>
    have : x ∈ readyGo .any L l 0 := ready_of (by rw [h]; simp)
    rw [hr] at this
    cases this
theorem eaB {X : Type} {S : X → Act → World → Prop} (k : ∀ x, TrB ro P l Q ef TL (S x) fuel L) : TrB ro P l Q ef TL (fun a w => ∃ x, S x a w) fuel L :=
  ⟨fun hs he => ea fun x => (k x).h hs he⟩
theorem amonoB (hs : ∀ a w, S a w → S' a w) (k : TrB ro P l Q ef TL S' fuel L) : TrB ro P l Q ef TL S fuel L := ⟨fun h he => amono hs (k.h h he)⟩
def edgeB (md : Region.Mode) (l : List Oper) (j x : Nat) : Bool := match l[j]? with
  | some o => o.after.toList.any fun e => match Nat.beq e.on x with
    | true => Region.binds md e
    | false => false
  | none => false
def pathE (md : Region.Mode) (l : List Oper) : Nat → List Nat → Nat → Bool
  | j, [], k => edgeB md l j k
  | j, x :: p, k => match edgeB md l j x with
    | true => pathE md l x p k
    | false => false
theorem edgeB_spec {md : Region.Mode} {j x : Nat} (h : edgeB md l j x = true) : ∃ o, l[j]? = some o ∧ ∃ e ∈ o.after, Region.binds md e = true ∧ e.on = x := by
  unfold edgeB at h
  split at h
  · rename_i o ho
    obtain ⟨e, he, h2⟩ := List.any_eq_true.1 h
    split at h2
    · rename_i hb; exact ⟨o, ho, e, Array.mem_toList_iff.1 he, h2, Nat.eq_of_beq_eq_true hb⟩
    · cases h2
  · cases h
theorem lateB_mono {md : Region.Mode} {ops : Array Oper} : ∀ {f j k : Nat}, lateB md ops f j k = true → lateB md ops (f + 1) j k = true
  | 0, j, k, h => by cases h
  | f + 1, j, k, h => by
    unfold lateB at h ⊢
    split at h
    · rename_i oj hj
      obtain ⟨e, he, hb⟩ := Array.any_eq_true'.1 h
      refine Array.any_eq_true'.2 ⟨e, he, ?_⟩
      simp only [Bool.and_eq_true, Bool.or_eq_true, beq_iff_eq] at hb ⊢
      exact ⟨hb.1, hb.2.imp id lateB_mono⟩
    · cases h
theorem pathE_late {md : Region.Mode} : ∀ {p : List Nat} {j k : Nat}, pathE md l j p k = true → lateB md l.toArray (p.length + 1) j k = true
  | [], j, k, h => by
    obtain ⟨o, ho, e, he, hb, hx⟩ := edgeB_spec h
    unfold lateB
    rw [show l.toArray[j]? = some o by simpa using ho]
    exact Array.any_eq_true'.2 ⟨e, he, by simp [hb, hx]⟩
  | x :: p, j, k, h => by
    unfold pathE at h
    split at h
    · rename_i h1
      obtain ⟨o, ho, e, he, hb, hx⟩ := edgeB_spec h1
      have ih := pathE_late (p := p) h
      unfold lateB
      rw [show l.toArray[j]? = some o by simpa using ho]
      exact Array.any_eq_true'.2 ⟨e, he, by simp [hb, hx, ih]⟩
    · cases h
theorem pathE_lt {md : Region.Mode} {p : List Nat} {j k : Nat} (h : pathE md l j p k = true) : j < l.length := by
  cases p with
  | nil =>
    obtain ⟨o, ho, _⟩ := edgeB_spec h
    exact (List.getElem?_eq_some_iff.1 ho).1
  | cons x p =>
    unfold pathE at h
    split at h
    · rename_i h4
      obtain ⟨o, ho, _⟩ := edgeB_spec h4
      exact (List.getElem?_eq_some_iff.1 ho).1
    · cases h
theorem lateB_le {md : Region.Mode} {ops : Array Oper} {f g j k : Nat} (hfg : f ≤ g) (h : lateB md ops f j k = true) : lateB md ops g j k = true := by
  induction hfg with
  | refl => exact h
  | step _ ih => exact lateB_mono ih
theorem TOk.xP {k b o : Nat} {vs : List Value} {r : List (Nat × Nat × Nat × List Value)} (j : Nat) (p : List Nat) (hc : (match memb L j with | true => (match memb ef j with | true => (match Nat.blt p.length l.length with | true => pathE .any l j p k | false => false) | false => false) | false => false) = true) (h : TOk l.toArray ef L S r) : TOk l.toArray ef L S ((k, b, o, vs) :: r) := by
  refine TOk.x ?_ h
  split at hc
  · rename_i h1
    split at hc
    · rename_i h2
      split at hc
      · rename_i h3
        have hl := pathE_late hc
        have hlt : j < l.length := pathE_lt hc
        have hlate : lateB .any l.toArray l.toArray.size j k = true := lateB_le (by simp only [List.size_toArray]; exact Nat.succ_le_of_lt (by simpa [Nat.blt_eq] using h3)) hl
        rw [Bool.eq_false_iff]
        intro hlive
        have := List.all_eq_true.1 hlive j (List.mem_range.2 (by simpa using hlt))
        rw [getD_lst (by simpa using hlt), h1, hlate] at this
        have h5 : ef.contains j = true := by simpa using memb_iff.1 h2
        simp [h5] at this
        exact absurd (memb_iff.1 h2) (by simpa using this)
      · cases hc
    · cases hc
  · cases hc
/-- a slot's value, otherwise said -/
theorem fixB {v v' : Value} (e : v = v') (k : TrB ro P l Q ef TL (St M0 F0 w0 n ((d, v') :: σ) Ξ Γ) fuel L) : TrB ro P l Q ef TL (St M0 F0 w0 n ((d, v) :: σ) Ξ Γ) fuel L := e ▸ k
theorem fixL {ops : Array Oper} {m : List Oper} {v v' : Value} (e : v = v') (k : TrL ro P ops Q (St M0 F0 w0 n ((d, v') :: σ) Ξ Γ) m) : TrL ro P ops Q (St M0 F0 w0 n ((d, v) :: σ) Ξ Γ) m := e ▸ k
end
end Go.Sx

end
section
set_option linter.unusedVariables false
set_option linter.unusedSimpArgs false
namespace Go.Sx
open Go Go.RowKit
section
variable {ro : Option Nat} {P : Program} {M0 F0 : Nat → Prop} {w0 : World} {n : Nm} {σ : List (Nat × Value)} {Ξ : List Xsn} {Γ : List Asn} {d : Nat} {ty : TypeId} {pos : String} {af : Array Edge}
/-- the cells of what lies in data -/
theorem slA_cells {α : Type} [Rp α] {M : Nat → Prop} {w : World} {B : Option Addr} {m : List α} (hdat : (slA B m).p M w) :
    ∃ news, RowE M w m news ∧ (∀ b o, B = some ⟨b, o, none⟩ → ∀ j u, news[j]? = some u → w.cell? ⟨b, o + j, none⟩ = some u) := by
  have : ∀ k, k ≤ m.length → ∃ news, RowE M w (m.take k) news ∧ (∀ b o, B = some ⟨b, o, none⟩ → ∀ j u, news[j]? = some u → w.cell? ⟨b, o + j, none⟩ = some u) := by
    intro k
    induction k with
    | zero => exact fun _ => ⟨[], by simpa using RowE.nil, fun _ _ _ j u hu => by simp at hu⟩
    | succ k ih =>
      intro hk
      obtain ⟨news, h1, h2⟩ := ih (by omega)
      obtain ⟨b, o, y, hB', _, _, hc, ha⟩ := hdat k m[k] (List.getElem?_eq_getElem (by omega))
      refine ⟨news ++ Rp.enc m[k] y, ?_, fun b' o' hB'' j u hu => ?_⟩
      · rw [List.take_succ_eq_append_getElem (by omega)]
        exact .snoc y h1 ha
      · rcases Nat.lt_or_ge j news.length with hj | hj
        · rw [List.getElem?_append_left hj] at hu
          exact h2 b' o' hB'' j u hu
        · rw [List.getElem?_append_right hj] at hu
          have hlen := h1.length
          simp only [List.length_take, Nat.min_eq_left (show k ≤ m.length by omega)] at hlen
          rw [hB'] at hB''
          cases hB''
          have := hc _ u hu
          rw [hlen] at this
          rw [← this]
          congr 2
          omega
  obtain ⟨news, h1, h2⟩ := this m.length (Nat.le_refl _)
  exact ⟨news, by simpa using h1, h2⟩
/-- append onto data that has no room -/
theorem loc_appf {α : Type} [Rp α] {t e ty' : TypeId} {z : Value} {bytes : Nat} (ht : P.underlying t = some (.slice e)) (hinfo : (P.info? e).map (fun i => (i.zero, i.size, i.bytes)) = some (some z, Rp.size α, bytes)) (hzs : z.cells.size = Rp.size α) (hsz : 0 < Rp.size α) (hb0 : 0 < bytes)
    (A : Addr) (l : List α) (B : Option Addr) (c' : Nat) (m : List α) (hl : (l.length + m.length) * bytes ≤ 140737488355328) (hm : 0 < m.length) :
    Loc P (fun w => (Builtin.append_ #[t, t] ty' #[.slice (some A) l.length l.length, .slice B m.length c']).run P w) [] [slA (some A) l, slA B m] (Option Addr × Nat) (fun y => .slice y.1 (l.length + m.length) y.2) (fun y => [row e y.1 y.2 (l ++ m)]) (fun _ => []) := by
  obtain ⟨i0, hi, hz0, hz1, hz2⟩ := info_parts hinfo
  intro M0 Fs w hh
  obtain rfl : Fs = [] := by
    match Fs, hh.ex with
    | [], _ => rfl
    | _ :: _, h => exact h.elim
  have hn : l.length + m.length ≤ maxLen := by
    have : (l.length + m.length) * 1 ≤ (l.length + m.length) * bytes := Nat.mul_le_mul_left _ hb0
    simp only [maxLen]; omega
  obtain ⟨olds, ho1, ho2⟩ := slA_cells (hh.ga (slA (some A) l) (by simp))
  obtain ⟨news, hn1, hn2⟩ := slA_cells (hh.ga (slA B m) (by simp))
  obtain ⟨b, o, _, hB, _⟩ := hh.ga (slA B m) (by simp) 0 m[0] (List.getElem?_eq_getElem hm)
  subst hB
  have holds : ∀ j u, olds[j]? = some u → w.cell? (A.add j) = some u := by
    intro j u hu
    have hjl := (List.getElem?_eq_some_iff.1 hu).1
    have hl0 : 0 < l.length := by
      rcases Nat.eq_zero_or_pos l.length with h0 | h0
      · have := ho1.length; rw [h0] at this; simp at this; rw [this] at hjl; simp at hjl
      · exact h0
    obtain ⟨b', o', _, hA, _⟩ := hh.ga (slA (some A) l) (by simp) 0 l[0] (List.getElem?_eq_getElem hl0)
    cases hA
    rw [Addr.add_lit]
    exact ho2 b' o' rfl j u hu
  obtain ⟨v', w', h1, h2, h3⟩ := run_append_arg_grows (P := P) w t ty' e i0 z (Rp.size α) bytes ht hi hz0 hz1 hz2 hzs hsz A l.length l.length olds ho1.length holds ⟨b, o, none⟩ m.length c' news hn1.length (fun j u hu => by rw [Addr.add_lit]; exact hn2 b o rfl j u hu) (by omega) hn hl
  rcases h2.2 with ⟨_, h0⟩ | ⟨g, cap, cur, rfl, hbase, hb, hle, hmax, hcs, hxs⟩
  · omega
  have hu : Upd (fun _ => False) w w' := ⟨h3.os, h3.tape, h3.output, h3.size, fun b hb _ => h3.block b hb (fun e' => by cases e')⟩
  have hlt : g < w'.heap.size := (Array.getElem?_eq_some_iff.1 hb).1
  have hM : ∀ b, b < w.heap.size → (M0 b ∨ own [fun x => x = g] b) → M0 b ∨ own [] b := by
    intro b hb' hm
    rcases hm with hm | hm
    · exact .inl hm
    · have : b = g := by simpa [own] using hm
      omega
  refine ⟨(some ⟨g, 0, none⟩, cap), [fun x => x = g], w', h1, ⟨⟨⟨olds ++ news, ⟨by rw [List.length_append, ho1.length, hn1.length, List.length_append, Nat.add_mul], .inr ⟨g, cap, cur, by rw [List.length_append], Nat.zero_le _, hb, by rw [List.length_append]; exact hle, hmax, hcs, by rw [List.length_append]; exact hxs⟩⟩, ?_, ?_⟩, trivial⟩, List.pairwise_singleton _ _, ?_, ?_, ?_, (fun p hp => by cases hp), ?_, hh.m0, hh.f0⟩⟩
  · intro x; simp [Value.ownBlock, eq_comm]
  · exact (ho1.append hn1).st (fun b hb' _ => hu.block b hb' (fun h => h)) (fun b hb' hm => hM b hb' hm) hu.size
  · intro b hb' hm
    have : b = g := by simpa [own] using hb'
    have := hh.m0 b hm
    omega
  · intro b hb'
    have : b = g := by simpa [own] using hb'
    omega
  · intro b hb' hlt'
    have : b = g := by simpa [own] using hb'
    omega
  · exact ⟨hu.os, hu.tape, hu.output, hu.size, fun b hb' _ => hu.block b hb' (fun h => h)⟩
theorem o_appf {α : Type} [Rp α] {x y : Operand} {t e : TypeId} {z : Value} {bytes : Nat} {A : Addr} {B : Option Addr} {c c' : Nat} {l m : List α}
    (ht : P.underlying t = some (.slice e)) (hinfo : (P.info? e).map (fun i => (i.zero, i.size, i.bytes)) = some (some z, Rp.size α, bytes)) (hzs : z.cells.size = Rp.size α) (hsz : 0 < Rp.size α) (hb0 : 0 < bytes) (hc : c = l.length)
    (hx : ev σ x = some (.slice (some A) l.length c)) (hy : ev σ y = some (.slice B m.length c')) (hl : (l.length + m.length) * bytes ≤ 140737488355328) (hm : 0 < m.length) (hg : Sub [slA (some A) l, slA B m] Γ) (hd : Nat.blt d n.n = true) :
    OpR P ⟨some d, .call ⟨.builtin .append, #[x, y], #[t, t]⟩, ty, pos, af, none⟩ (St M0 F0 w0 n σ Ξ Γ) (fun a w => ∃ q : Option Addr × Nat, St M0 F0 w0 n ((d, .slice q.1 (l ++ m).length q.2) :: σ) (row e q.1 q.2 (l ++ m) :: Ξ) Γ a w) := by
  subst hc
  have hloc := loc_appf (P := P) (ty' := ty) (α := α) ht hinfo hzs hsz hb0 A l B c' m hl hm
  refine (o_loc (is := []) (Ξ := Ξ) (Ξ' := Ξ) hloc ?_ rfl hg hd).mono ?_
  · intro a hsl w v w' hr
    have h1 := hsl.ev hx
    have h2 := hsl.ev hy
    have hm : (#[x, y] : Array Operand).map a.eval = #[.slice (some A) l.length l.length, .slice B m.length c'] := by simp [h1, h2]
    simp only [execOp, resolve, invoke, builtin, hm]
    simp [hr]
  · rintro a w ⟨q, h⟩
    exact ⟨q, by simpa using h⟩
/-- x[:hi:max] of data -/
theorem p_slm {T : World → Prop} {x b c : Operand} {t e : TypeId} {A : Option Addr} {len cap sz : Nat} {k2 k3 : IntKind} {m2 m3 : Int} (hi mx : Nat) (h1 : hi ≤ mx) (h2 : mx ≤ cap) (hm2 : m2 = (hi : Int)) (hm3 : m3 = (mx : Int)) (ht : P.underlying t = some (.slice e)) (he : ∀ w, (sizeOf e).run P w = .ok sz w)
    (hx : ev σ x = some (.slice A len cap)) (hb : ev σ b = some (.int k2 m2)) (hc : ev σ c = some (.int k3 m3)) :
    Pu P n σ T ⟨some d, .slice t x none (some b) (some c), ty, pos, af, none⟩ (.slice (if mx = 0 then A else A.map (·.add (0 * sz))) (hi - 0) (mx - 0)) := by
  subst hm2
  subst hm3
  intro a' hs w _
  have g1 : (0 : Int) ≤ (mx : Int) ∧ (mx : Int) ≤ (cap : Int) := by omega
  have g2 : (0 : Int) ≤ (hi : Int) ∧ (hi : Int) ≤ (mx : Int) := by omega
  simp [execOp, hs.ev hx, hs.ev hb, hs.ev hc, Instr.sliceAt, Instr.slice, Instr.sliceBounds, Instr.sliceBound, asIntOf, run_underlying ht, he, g1, g2, h1, h2]
theorem nil_lenA {α : Type} [Rp α] {l : List α} {a : Act} {w : World} {i : Nat} (hi : At (slA none l) i Γ) (h : St M0 F0 w0 n σ Ξ Γ a w) : l = [] ∧ St M0 F0 w0 n σ Ξ Γ a w := by
  obtain ⟨hs, Fs, hh⟩ := h
  refine ⟨?_, hs, Fs, hh⟩
  have h1 := hh.ga _ (List.mem_of_getElem? hi.get)
  match l, h1 with
  | [], _ => rfl
  | x :: l, h1 =>
    obtain ⟨b, o, y, hA, _⟩ := h1 0 x rfl
    cases hA
end
end Go.Sx

end
