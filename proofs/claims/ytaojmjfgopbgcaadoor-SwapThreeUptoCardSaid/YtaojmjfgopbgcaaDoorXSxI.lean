/- OWN WORK: a part of the proof of a law of the seat YtaojmjfgopbgcaaDoor: the rules by which the code is walked. -/
import Derived.Test.YtaojmjfgopbgcaaDoorXSxH
set_option linter.unusedVariables false
set_option linter.unusedSimpArgs false
namespace Go.Sx
open Go Go.RowKit
/-- a contract of what is no call: an operation on values -/
def Loc (P : Program) (run : World → Result Value) (Ξi : List Xsn) (Γi : List Asn) (X : Type) (rv : X → Value) (Ξo : X → List Xsn) (Γo : X → List Asn) : Prop :=
  ∀ M0 Fs w, Hp M0 (own Fs) w Ξi Γi Fs w → ∃ x Fs' w', run w = .ok (rv x) w' ∧ Hp M0 (own Fs) w (Ξo x) (Γo x) Fs' w'

section
variable {P : Program} {M0 F0 : Nat → Prop} {w0 : World} {n : Nat} {σ : List (Nat × Value)} {Ξ : List Xsn} {Γ : List Asn} {d : Nat} {ty : TypeId} {pos : String} {af : Array Edge}
variable {ops : Array Oper} {Q : Exit → Act → World → Prop} {S S' : Act → World → Prop}
theorem o_loc {o : Op} {run : World → Result Value} {Ξi Ξ' : List Xsn} {Γi : List Asn} {X : Type} {rv : X → Value} {Ξo : X → List Xsn} {Γo : X → List Asn} {is : List Nat}
    (hc : Loc P run Ξi Γi X rv Ξo Γo) (hr : ∀ a, Slots n σ a → ∀ w v w', run w = .ok v w' → (execOp a.eval ⟨some d, o, ty, pos, af, none⟩).run P w = .ok (.value v) w') (hs : takeAll is Ξ = some (Ξi, Ξ')) (hg : Sub Γi Γ) (hd : Nat.blt d n = true) :
    OpR P ⟨some d, o, ty, pos, af, none⟩ (St M0 F0 w0 n σ Ξ Γ) (fun a w => ∃ x, St M0 F0 w0 n ((d, rv x) :: σ) (Ξo x ++ Ξ') (Γo x ++ Γ) a w) :=
  OpR.of_run rfl fun a w ⟨hsl, Fs, hh⟩ => by
    obtain ⟨Gs, Hs, hp, hin, hr'⟩ := hh.select hs hg.mem
    obtain ⟨x, Fs', w', h1, h2⟩ := hc _ Gs w hin
    exact ⟨_, w', hr a hsl w _ _ h1, x, hsl.put hd, _, hh.back hp hr' h2⟩
/-- one exclusive thing, as it becomes another one (in place, or in a new block) -/
theorem Hp.one {M0 : Nat → Prop} {F : Nat → Prop} {w w' : World} {x : Xsn} {Γ : List Asn} (h : Hp M0 (own [F]) w [x] Γ [F] w) {F' : Nat → Prop} {x' : Xsn} (hu : Upd F w w') (hF : ∀ b, F' b → F b ∨ w.heap.size ≤ b) (hlt : ∀ b, F' b → b < w'.heap.size) (hx : x'.p F' (fun b => M0 b ∨ own [F'] b) w') :
    Hp M0 (own [F]) w [x'] [] [F'] w' := by
  have h1 : ∀ b, own [F] b ↔ F b := fun b => by simp [own]
  have h2 : ∀ b, own [F'] b ↔ F' b := fun b => by simp [own]
  refine ⟨⟨hx, trivial⟩, List.pairwise_singleton _ _, fun b hb hm => ?_, fun b hb => hlt b ((h2 b).1 hb), fun b hb hl => ?_, (fun p hp => by cases hp), ?_, h.m0, h.f0⟩
  · rcases hF b ((h2 b).1 hb) with h' | h'
    · exact h.dis0 b ((h1 b).2 h') hm
    · have := h.m0 b hm; omega
  · rcases hF b ((h2 b).1 hb) with h' | h'
    · exact (h1 b).2 h'
    · omega
  · exact ⟨hu.os, hu.tape, hu.output, hu.size, fun b hb hn => hu.block b hb (fun h' => hn ((h1 b).2 h'))⟩

/-- append: what is appended lies in data -/
theorem loc_app {α : Type} [Rp α] {t e ty' : TypeId} {z : Value} {bytes : Nat} (ht : P.underlying t = some (.slice e)) (hinfo : (P.info? e).map (fun i => (i.zero, i.size, i.bytes)) = some (some z, Rp.size α, bytes)) (hzs : z.cells.size = Rp.size α) (hsz : 0 < Rp.size α) (hb0 : 0 < bytes)
    (A : Option Addr) (c : Nat) (l : List α) (B : Option Addr) (c' : Nat) (m : List α) (hl : (l.length + m.length) * bytes ≤ 140737488355328) (hB : m = [] → B = none → c' = 0) :
    Loc P (fun w => (Builtin.append_ #[t, t] ty' #[.slice A l.length c, .slice B m.length c']).run P w) [row e A c l] [slA B m] (Option Addr × Nat) (fun y => .slice y.1 (l.length + m.length) y.2) (fun y => [row e y.1 y.2 (l ++ m)]) (fun _ => []) := by
  obtain ⟨i0, hi, hz0, hz1, hz2⟩ := info_parts hinfo
  intro M0 Fs w hh
  obtain ⟨F, rfl⟩ : ∃ F, Fs = [F] := by
    match Fs, hh.ex with
    | [F], _ => exact ⟨F, rfl⟩
    | _ :: _ :: _, h => exact h.2.elim
  obtain ⟨⟨xs, ho, hF, hr⟩, _⟩ := hh.ex
  have hn : l.length + m.length ≤ maxLen := by
    have : (l.length + m.length) * 1 ≤ (l.length + m.length) * bytes := Nat.mul_le_mul_left _ hb0
    simp only [maxLen]; omega
  have hdat := hh.ga (slA B m) (by simp)
  -- the cells of what is appended
  have hM1 : ∀ b, (M0 b ∨ own [F] b) ↔ (M0 b ∨ own [F] b) := fun _ => Iff.rfl
  obtain ⟨news, hnews, hcell⟩ : ∃ news, RowE (fun b => M0 b ∨ own [F] b) w m news ∧ (∀ b o, B = some ⟨b, o, none⟩ → ∀ j u, news[j]? = some u → w.cell? ⟨b, o + j, none⟩ = some u) := by
    -- by the beginnings of m
    have : ∀ k, k ≤ m.length → ∃ news, RowE (fun b => M0 b ∨ own [F] b) w (m.take k) news ∧ (∀ b o, B = some ⟨b, o, none⟩ → ∀ j u, news[j]? = some u → w.cell? ⟨b, o + j, none⟩ = some u) := by
      intro k
      induction k with
      | zero => exact fun _ => ⟨[], by simpa using RowE.nil, fun _ _ _ j u hu => by simp at hu⟩
      | succ k ih =>
        intro hk
        obtain ⟨news, h1, h2⟩ := ih (by omega)
        obtain ⟨b, o, y, hB', _, _, hc, ha⟩ := hdat k m[k] (List.getElem?_eq_getElem (by omega))
        refine ⟨news ++ Rp.enc m[k] y, ?_, fun b' o' hB'' j u hu => ?_⟩
        · rw [List.take_succ_eq_append_getElem (by omega)]
          exact .snoc y h1 ha
        · rcases Nat.lt_or_ge j news.length with hj | hj
          · rw [List.getElem?_append_left hj] at hu
            exact h2 b' o' hB'' j u hu
          · rw [List.getElem?_append_right hj] at hu
            have hlen := h1.length
            simp only [List.length_take, Nat.min_eq_left (show k ≤ m.length by omega)] at hlen
            rw [hB'] at hB''
            cases hB''
            have := hc _ u hu
            rw [hlen] at this
            rw [← this]
            congr 2
            omega
    obtain ⟨news, h1, h2⟩ := this m.length (Nat.le_refl _)
    exact ⟨news, by simpa using h1, h2⟩
  have hlen := hnews.length
  have hrun : ∃ v' w', (Builtin.append_ #[t, t] ty' #[.slice A l.length c, .slice B m.length c']).run P w = .ok v' w' ∧ w'.ownsRow 0 e (Rp.size α) v' (l.length + m.length) (xs ++ news) ∧ w.grownBy w' (Value.slice A l.length c).ownBlock ∧ (v'.ownBlock = (Value.slice A l.length c).ownBlock ∨ v'.ownBlock = some w.heap.size) := by
    cases B with
    | none =>
      have hm0 : m = [] := by
        match m, hdat with
        | [], _ => rfl
        | x :: m', hd => obtain ⟨b, o, y, hB', _⟩ := hd 0 x rfl; cases hB'
      subst hm0
      have hc0 := hB rfl rfl
      subst hc0
      have hnil : news = [] := List.eq_nil_of_length_eq_zero (by simpa using hlen)
      subst hnil
      have h := run_append_owned_none (P := P) w 0 t ty' e i0 (Rp.size α) ht hi _ l.length xs ho
      exact ⟨_, w, h, by simpa using ho, World.grownBy.refl _ _, .inl rfl⟩
    | some ad =>
      have hnews' : ∀ j u, news[j]? = some u → w.cell? (ad.add j) = some u := by
        intro j u hu
        have hjl := (List.getElem?_eq_some_iff.1 hu).1
        have hm0 : 0 < m.length := by
          rcases Nat.eq_zero_or_pos m.length with h0 | h0
          · rw [h0] at hlen; simp at hlen; rw [hlen] at hjl; simp at hjl
          · exact h0
        obtain ⟨b, o, y, hB', _⟩ := hdat 0 m[0] (List.getElem?_eq_getElem hm0)
        cases hB'
        rw [Addr.add_lit]
        exact hcell b o rfl j u hu
      obtain ⟨v', w', h1, h2, h3, _, h5⟩ := run_append_own_at (P := P) w 0 t ty' e i0 z (Rp.size α) bytes ht hi hz0 hz1 hz2 hzs hsz _ l.length xs ho ad m.length c' news hlen hnews' hnews.one hn hl (Nat.zero_le _)
      exact ⟨v', w', h1, h2, h3, h5⟩
  obtain ⟨v', w', h1, h2, h3, h4⟩ := hrun
  have hform : ∃ A' c2, v' = .slice A' (l.length + m.length) c2 := by
    rcases h2.2 with ⟨rfl, h0⟩ | ⟨g, cap, cur, rfl, _⟩
    · exact ⟨none, 0, by rw [h0]⟩
    · exact ⟨_, cap, rfl⟩
  obtain ⟨A', c2, rfl⟩ := hform
  have hown : ∀ b, own [F] b ↔ F b := fun b => by simp [own]
  have hu : Upd F w w' := ⟨h3.os, h3.tape, h3.output, h3.size, fun b hb hn => h3.block b hb (fun e' => hn ((hF b).2 e'.symm))⟩
  have hF' : ∀ b, (Value.slice A' (l.length + m.length) c2).ownBlock = some b → F b ∨ w.heap.size ≤ b := by
    intro b hb
    rcases h4 with h | h
    · rw [h] at hb; exact .inl ((hF b).2 hb)
    · rw [h] at hb; cases hb; exact .inr (Nat.le_refl _)
  have hlt' : ∀ b, (Value.slice A' (l.length + m.length) c2).ownBlock = some b → b < w'.heap.size := by
    intro b hb
    rcases h2.2 with ⟨h, _⟩ | ⟨g, cap, cur, h, _, hg, _⟩
    · rw [h] at hb; simp [Value.ownBlock] at hb
    · rw [h] at hb; simp [Value.ownBlock] at hb; subst hb; exact (Array.getElem?_eq_some_iff.1 hg).1
  refine ⟨(A', c2), [fun b => (Value.slice A' (l.length + m.length) c2).ownBlock = some b], w', h1, hh.one hu hF' hlt' ⟨xs ++ news, ?_, ?_, ?_⟩⟩
  · rw [List.length_append]; exact h2
  · intro x; rw [List.length_append]
  · refine (hr.append hnews).st (fun b hb hn => hu.block b hb (fun hf => hn (.inr ((hown b).2 hf)))) (fun b hb hm => ?_) hu.size
    rcases hm with hm | hm
    · exact .inl hm
    · have hm' : (Value.slice A' (l.length + m.length) c2).ownBlock = some b := by simpa [own] using hm
      rcases hF' b hm' with h | h
      · exact .inr ((hown b).2 h)
      · omega

/-- a slice's literal -/
inductive Enum : Nat → List (Nat × Value) → List Value → Prop
  | d {i} : Enum i [] []
  | t {i v ps vs} : Enum (i + 1) ps vs → Enum i ((i, v) :: ps) (v :: vs)
theorem fill_enum (k : Nat) : ∀ {i : Nat} {ps : List (Nat × Value)} {vs : List Value}, Enum i ps vs → (∀ v ∈ vs, v.cells.size = k) → ∀ cs : Array Value, cs.size = (i + vs.length) * k →
    Instr.fill (fun i => some (i * k, k)) cs ps = some (cs.toList.take (i * k) ++ vs.flatMap (fun v => v.cells.toList)).toArray
  | i, _, _, .d, _, cs, hcs => by
    simp only [Instr.fill, List.flatMap_nil, List.append_nil]
    rw [List.take_of_length_le (by simp [hcs])]
  | i, _, _, .t (v := v) (ps := ps) (vs := vs) h, hv, cs, hcs => by
    have hk := hv v (by simp)
    simp only [List.length_cons] at hcs
    have hle : i * k + k ≤ cs.size := by
      rw [hcs, Nat.add_mul, Nat.add_mul, Nat.one_mul]; omega
    have h1 := foldl_put v.cells.toList 0 (i * k) cs (by simp [hk]; omega)
    have h2 : v.cells.zipIdx = (v.cells.toList.zipIdx).toArray := by apply Array.ext'; simp
    have hl : v.cells.toList.length = k := by simpa using hk
    have hstep : Instr.fill (fun i => some (i * k, k)) cs ((i, v) :: ps) = Instr.fill (fun i => some (i * k, k)) (cs.toList.take (i * k) ++ v.cells.toList ++ cs.toList.drop (i * k + k)).toArray ps := by
      have hno : ¬ (i * k + k > cs.size) := by omega
      rw [Instr.fill]
      simp only [hk, ne_eq, not_true_eq_false, false_or, hno, if_false]
      have h3 := congrArg (fun z => Instr.fill (fun i => some (i * k, k)) z ps) h1
      simp only [Nat.add_zero, hl] at h3
      rw [h2]
      simpa using h3
    rw [hstep, fill_enum k h (fun u hu => hv u (by simp [hu])) _ (by
      simp only [List.size_toArray, List.length_append, List.length_take, List.length_drop, Array.length_toList, hl]
      rw [Nat.min_eq_left (by omega), hcs]
      have e1 : (i + (vs.length + 1)) * k = i * k + vs.length * k + k := by rw [Nat.add_mul, Nat.add_mul]; omega
      have e2 : (i + 1 + vs.length) * k = i * k + k + vs.length * k := by rw [Nat.add_mul, Nat.add_mul]; omega
      omega)]
    congr 2
    simp only [List.flatMap_cons]
    rw [← List.append_assoc]
    congr 1
    have e3 : (i + 1) * k = i * k + k := by rw [Nat.add_mul]; omega
    rw [e3, List.take_append_of_le_length (by simp [hl]; omega)]
    rw [List.take_of_length_le (by simp [hl]; omega)]
/-- values that stand for data -/
inductive RV {α : Type} [Rp α] (Γ : List Asn) : List α → List Value → Prop
  | d : RV Γ [] []
  | t {x l v vs} (y : Rp.Lay α) : v.cells = (Rp.enc x y).toArray → Sub (Rp.asn x y) Γ → RV Γ l vs → RV Γ (x :: l) (v :: vs)
theorem RV.row {α : Type} [Rp α] {M : Nat → Prop} {w : World} {Γ : List Asn} (hg : ∀ p ∈ Γ, p.p M w) : ∀ {l : List α} {vs : List Value}, RV Γ l vs → RowE M w l (vs.flatMap fun v => v.cells.toList)
  | [], _, .d => .nil
  | x :: l, v :: vs, .t y h1 h2 h3 => by
    have ih := h3.row hg
    have h0 : RowE M w [x] (Rp.enc x y) := by simpa using RowE.snoc y RowE.nil (fun p hp => hg p (h2.mem p hp))
    have := h0.append ih
    simpa [List.flatMap_cons, h1] using this
theorem RV.cells {α : Type} [Rp α] {Γ : List Asn} : ∀ {l : List α} {vs : List Value}, RV Γ l vs → (∀ v ∈ vs, v.cells.size = Rp.size α) ∧ vs.length = l.length
  | [], _, .d => by simp
  | x :: l, v :: vs, .t y h1 h2 h3 => by
    obtain ⟨h4, h5⟩ := h3.cells
    refine ⟨fun u hu => ?_, by simp [h5]⟩
    rcases List.mem_cons.1 hu with rfl | hu
    · rw [h1]; simp [Rp.len]
    · exact h4 u hu
theorem o_bsl {α : Type} [Rp α] (l : List α) {t e : TypeId} {z : Value} {parts : List (Nat × Operand)} {ps : List (Nat × Value)} {vs : List Value} {len : Nat} (ht : P.underlying t = some (.slice e)) (he : ∀ w, (sizeOf e).run P w = .ok (Rp.size α) w) (hz : ∀ w, (zeroValue e).run P w = .ok z w)
    (hp : evP σ parts = some ps) (hen : Enum 0 ps vs) (hv : RV Γ l vs) (hlen : l.length = len) (hmax : len * Rp.size α ≤ 16777216) (hmax2 : len ≤ 9223372036854775807) (hd : Nat.blt d n = true) :
    OpR P ⟨some d, .buildSlice t len parts.toArray, ty, pos, af, none⟩ (St M0 F0 w0 n σ Ξ Γ) (fun a w => ∃ b, St M0 F0 w0 n ((d, .slice (some ⟨b, 0, none⟩) l.length l.length) :: σ) (row e (some ⟨b, 0, none⟩) l.length l :: Ξ) Γ a w) := by
  subst hlen
  refine OpR.of_run rfl fun a w ⟨hs, Fs, hh⟩ => ?_
  have hm := hs.evP hp
  obtain ⟨hc, hl⟩ := hv.cells
  have h2 : (parts.toArray.map (fun (x : Nat × Operand) => (x.1, a.eval x.2))).toList = ps := by simpa using hm
  have hfill : ∀ cs : Array Value, cs.size = l.length * Rp.size α → Instr.fill (fun i => some (i * Rp.size α, Rp.size α)) cs (parts.toArray.map (fun (x : Nat × Operand) => (x.1, a.eval x.2))).toList = some (vs.flatMap fun v => v.cells.toList).toArray := fun cs hcs => by
    rw [h2, fill_enum (Rp.size α) hen hc cs (by rw [hl, Nat.zero_add]; exact hcs)]
    simp
  have hrow := fun M hg => RV.row (M := M) (w := w) hg hv
  have hlen2 : (vs.flatMap fun v => v.cells.toList).length = l.length * Rp.size α := by
    have := (hrow (fun b => M0 b ∨ own Fs b) hh.ga).length
    exact this
  refine ⟨.slice (some ⟨w.heap.size, 0, none⟩) l.length l.length, w.alloc (.cells (vs.flatMap fun v => v.cells.toList).toArray e), ?_, w.heap.size, hs.put hd, _, hh.alloc' _ _ ?_⟩
  · have hno : ¬ (l.length * Rp.size α > 16777216) := by omega
    have hno' : ¬ (2 ^ 24 < l.length * Rp.size α) := by omega
    by_cases h0 : l.length * Rp.size α = 0
    · have := hfill (Array.map (fun _ => (default : Value)) (Array.range 0)) (by simp [h0])
      simp [execOp, Instr.buildSlice, run_underlying ht, he, h0, newRow] at this ⊢
      rw [this]
      simp
    · have := hfill ((Array.range (l.length * Rp.size α)).map (z.cells[· % z.cells.size]!)) (by simp)
      simp [execOp, Instr.buildSlice, run_underlying ht, he, hz, h0, hno', newRow] at this ⊢
      rw [this]
      simp
  · refine ⟨vs.flatMap fun v => v.cells.toList, ⟨hlen2, .inr ⟨w.heap.size, l.length, (vs.flatMap fun v => v.cells.toList).toArray, rfl, Nat.zero_le _, ?_, Nat.le_refl _, ?_, ?_, ?_⟩⟩, fun x => by simp [Value.ownBlock, eq_comm], ?_⟩
    · show (w.heap.push _)[w.heap.size]? = _
      simp
    · have hpos : l.length ≤ l.length * 16777216 := Nat.le_mul_of_pos_right _ (by omega)
      by_cases hsz : Rp.size α = 0
      · -- the elements have no cells: the length is small all the same
        simp only [maxLen]
        have := hl
        have : l.length ≤ 9223372036854775807 := hmax2
        omega
      · have : l.length * 1 ≤ l.length * Rp.size α := Nat.mul_le_mul_left _ (by omega)
        simp only [maxLen]; omega
    · simp [hlen2]
    · rw [List.take_of_length_le (by simp [hlen2])]
    · exact (hrow _ hh.ga).st (fun b hb _ => Below.heap_alloc w _ b hb) (fun b hb hm => by
        rcases hm with hm | hm
        · exact .inl hm
        · rcases own_cons.1 hm with e' | e'
          · omega
          · exact .inr e') (by simp)
/-- a contract that leaves all memory as it was -/
theorem con_same {f : FuncId} {vs : List Value} {Γi : List Asn} {r : Value} (h : ∀ w, Calls P f vs.toArray w fun e w' => e = .returned r ∧ w' = w) : Con P f vs [] Γi Unit (fun _ => r) (fun _ => []) (fun _ => []) := by
  intro M0 Fs w hh
  refine (h w).mono ?_
  rintro e w' ⟨rfl, rfl⟩
  obtain ⟨rfl⟩ : Fs = [] := by
    match Fs, hh.ex with
    | [], _ => rfl
    | _ :: _, h => exact h.elim
  exact ⟨(), [], rfl, { hh with ga := fun p hp => by cases hp }⟩
/-- a contract that makes memory of its own, and hands back nothing of it -/
theorem con_below {f : FuncId} {vs : List Value} {Γi : List Asn} {r : Value} (h : ∀ M0 w, (∀ p ∈ Γi, p.p M0 w) → Calls P f vs.toArray w fun e w' => e = .returned r ∧ Below w.heap.size w w') : Con P f vs [] Γi Unit (fun _ => r) (fun _ => []) (fun _ => []) := by
  intro M0 Fs w hh
  obtain ⟨rfl⟩ : Fs = [] := by
    match Fs, hh.ex with
    | [], _ => rfl
    | _ :: _, h => exact h.elim
  have hga : ∀ p ∈ Γi, p.p M0 w := fun p hp => p.st _ _ _ _ (hh.ga p hp) (fun _ _ _ => rfl) (fun b _ hb => .inl hb) (Nat.le_refl _)
  refine (h M0 w hga).mono ?_
  rintro e w' ⟨rfl, hb⟩
  exact ⟨(), [], rfl, trivial, List.Pairwise.nil, fun b hb => (own_nil b hb).elim, fun b hb => (own_nil b hb).elim, fun b hb => (own_nil b hb).elim, (fun p hp => by cases hp), Upd.of_below hb _, hh.m0, hh.f0⟩
end
end Go.Sx
