/- OWN WORK: a part of the proof of a law of the seat YtaojmjfgopbgcaaDoor: the rules by which the code is walked. -/
import Derived.Test.YtaojmjfgopbgcaaDoorXSxD
set_option linter.unusedVariables false
set_option linter.unusedSimpArgs false
namespace Go.Sx
open Go Go.RowKit
/-- a struct's value, as it lies -/
def sv {α : Type} [Rp α] (x : α) (y : Rp.Lay α) : Value := .agg (Rp.enc x y).toArray

section
variable {P : Program} {M0 F0 : Nat → Prop} {w0 : World} {n : Nat} {σ : List (Nat × Value)} {Ξ : List Xsn} {Γ : List Asn} {d : Nat} {ty : TypeId} {pos : String} {af : Array Edge}
variable {ops : Array Oper} {Q : Exit → Act → World → Prop}
theorem lf {φ : Prop} {S : Act → World → Prop} {l : List Oper} (k : φ → TrL P ops Q S l) : TrL P ops Q (fun a w => φ ∧ S a w) l := fun a w ⟨h, hS⟩ => k h a w hS

/-- the place of an element -/
theorem o_ia {α : Type} [Rp α] {x ix : Operand} {t e : TypeId} {A : Option Addr} {l : List α} {c i : Nat} {kd : IntKind} {m : Int} (j : Nat) (hj : j < l.length) (hm : m = (j : Int))
    (ht : P.underlying t = some (.slice e)) (he : ∀ w, (sizeOf e).run P w = .ok (Rp.size α) w) (hx : ev σ x = some (.slice A l.length c)) (hix : ev σ ix = some (.int kd m)) (hi : At (slA A l) i Γ) (hd : Nat.blt d n = true) :
    OpR P ⟨some d, .indexAddr t x ix, ty, pos, af, none⟩ (St M0 F0 w0 n σ Ξ Γ) (fun a w => ∃ b o, A = some ⟨b, o, none⟩ ∧ St M0 F0 w0 n ((d, .pointer (some ⟨b, o + j * Rp.size α, none⟩)) :: σ) Ξ Γ a w) := by
  subst hm
  refine OpR.of_run rfl fun a w ⟨hs, Fs, hh⟩ => ?_
  have hg := hh.ga _ (List.mem_of_getElem? hi.get)
  obtain ⟨b, o, y, rfl, _⟩ := hg j (l[j]) (List.getElem?_eq_getElem hj)
  refine ⟨_, w, ?_, b, o, rfl, hs.put hd, Fs, hh⟩
  have h0 : (0 : Int) ≤ (j : Int) ∧ (j : Int) < (l.length : Int) := by omega
  simp [execOp, hs.ev hx, hs.ev hix, Instr.indexAt, run_underlying ht, asIntOf, he, hj, Addr.add_lit]
/-- one cell of an element -/
theorem o_ldd {α : Type} [Rp α] {x : Operand} {t : TypeId} {A : Option Addr} {l : List α} {i b o q k : Nat} {e : α} {V : Rp.Lay α → Value} (j : Nat) (hA : A = some ⟨b, o, none⟩) (hj : l[j]? = some e) (hag : ∀ w, (isAgg t).run P w = .ok false w)
    (hx : ev σ x = some (.pointer (some ⟨b, q, none⟩))) (hq : q = o + j * Rp.size α + k) (hi : At (slA A l) i Γ) (hV : ∀ y, At (V y) k (Rp.enc e y)) (hd : Nat.blt d n = true) :
    OpR P ⟨some d, .load t x, ty, pos, af, none⟩ (St M0 F0 w0 n σ Ξ Γ) (fun a w => ∃ y, St M0 F0 w0 n ((d, V y) :: σ) Ξ (Rp.asn e y ++ Γ) a w) := by
  subst hq
  refine OpR.of_run rfl fun a w ⟨hs, Fs, hh⟩ => ?_
  have hg := hh.ga _ (List.mem_of_getElem? hi.get)
  obtain ⟨b', o', y, hA', _, _, hc, ha⟩ := hg j e hj
  rw [hA] at hA'
  cases hA'
  have h1 := hc k (V y) (hV y).get
  refine ⟨V y, w, ?_, y, hs.put hd, Fs, { hh with ga := fun p hp => ?_ }⟩
  · simp [execOp, hs.ev hx, Instr.loadAt, Instr.sureAddr, loadVar, hag, h1]
  · rcases List.mem_append.1 hp with h | h
    · exact ha p h
    · exact hh.ga p h
/-- a whole element that is a struct -/
theorem o_ldde {α : Type} [Rp α] {x : Operand} {t : TypeId} {A : Option Addr} {l : List α} {i b o q : Nat} {e : α} (j : Nat) (hA : A = some ⟨b, o, none⟩) (hj : l[j]? = some e) (hag : ∀ w, (isAgg t).run P w = .ok true w) (hsz : ∀ w, (sizeOf t).run P w = .ok (Rp.size α) w)
    (hx : ev σ x = some (.pointer (some ⟨b, q, none⟩))) (hq : q = o + j * Rp.size α) (hi : At (slA A l) i Γ) (hd : Nat.blt d n = true) :
    OpR P ⟨some d, .load t x, ty, pos, af, none⟩ (St M0 F0 w0 n σ Ξ Γ) (fun a w => ∃ y, St M0 F0 w0 n ((d, sv e y) :: σ) Ξ (Rp.asn e y ++ Γ) a w) := by
  subst hq
  refine OpR.of_run rfl fun a w ⟨hs, Fs, hh⟩ => ?_
  have hg := hh.ga _ (List.mem_of_getElem? hi.get)
  obtain ⟨b', o', y, hA', _, _, hc, ha⟩ := hg j e hj
  rw [hA] at hA'
  cases hA'
  have hr := run_loadCells_list (P := P) w ⟨b, o + j * Rp.size α, none⟩ (Rp.enc e y) (fun i v hv => by rw [Addr.add_lit]; exact hc i v hv)
  rw [Rp.len] at hr
  refine ⟨sv e y, w, ?_, y, hs.put hd, Fs, { hh with ga := fun p hp => ?_ }⟩
  · simp [execOp, hs.ev hx, Instr.loadAt, Instr.sureAddr, loadVar, hag, hsz, hr, sv]
  · rcases List.mem_append.1 hp with h | h
    · exact ha p h
    · exact hh.ga p h
/-- an array in a variable: the place of an element -/
theorem p_iav {T : World → Prop} {x ix : Operand} {t e : TypeId} {b o len sz : Nat} {kd : IntKind} {m : Int} (j : Nat) (hj : j < len) (hm : m = (j : Int)) (ht : P.underlying t = some (.array len e)) (he : ∀ w, (sizeOf e).run P w = .ok sz w)
    (hx : ev σ x = some (.pointer (some ⟨b, o, none⟩))) (hix : ev σ ix = some (.int kd m)) : Pu P n σ T ⟨some d, .indexAddr t x ix, ty, pos, af, none⟩ (.pointer (some ⟨b, o + j * sz, none⟩)) := by
  subst hm
  intro a hs w _
  have h0 : (0 : Int) ≤ (j : Int) ∧ (j : Int) < (len : Int) := by omega
  simp [execOp, hs.ev hx, hs.ev hix, Instr.indexAt, run_underlying ht, asIntOf, Instr.sureAddr, he, hj, Addr.add_lit]
/-- a field of a struct's value -/
theorem p_fld {T : World → Prop} {x : Operand} {t ft : TypeId} {f off : Nat} {cs : List Value} {v : Value} {fs : Array Field} {fd : Field} (hu : P.underlying t = some (.struct fs)) (hfd : fs[f]? = some fd) (ho : fd.offset = off) (hft : fd.type = ft) (hag : ∀ w, (isAgg ft).run P w = .ok false w)
    (hx : ev σ x = some (.agg cs.toArray)) (hv : At v off cs) : Pu P n σ T ⟨some d, .field t x f, ty, pos, af, none⟩ (v) := by
  subst ho hft
  intro a hs w _
  simp [execOp, hs.ev hx, Instr.field, run_underlying hu, hfd, part, asAgg, hag, hv.get]
/-- a struct is built -/
def SB (P : Program) (t : TypeId) (pl : List (Nat × Nat)) (zs : List Value) : Prop := ∀ (parts : Array (Nat × Value)) (cells : Array Value), Instr.fill (pl[·]?) zs.toArray parts.toList = some cells → ∀ w, (Instr.build t parts).run P w = .ok (.agg cells) w
theorem SB.struct {t : TypeId} {pl : List (Nat × Nat)} {zs : List Value} {z : Value} {fs : Array Field} (hz : ∀ w, (zeroValue t).run P w = .ok z w) (hc : z.cells = zs.toArray) (hu : P.underlying t = some (.struct fs))
    (hpl : ∀ w, (fs.toList.mapM fun f => (do pure (f.offset, ← sizeOf f.type) : Sem (Nat × Nat))).run P w = .ok pl w) : SB P t pl zs := by
  intro parts cells hf w
  have : (fs.mapM fun f => (do pure (f.offset, ← sizeOf f.type) : Sem (Nat × Nat))).run P w = .ok pl.toArray w := by
    rw [Array.mapM_eq_mapM_toList]
    simp only [Sem.run_map, hpl, Result.andThen_ok]
  have hf' : Instr.fill (fun x => pl.toArray[x]?) zs.toArray parts.toList = some cells := by simpa using hf
  unfold Instr.build
  simp only [Sem.run_bind, hz, Result.andThen_ok, run_underlying hu, this, hc]
  rw [hf']
  rfl
def evP (σ : List (Nat × Value)) : List (Nat × Operand) → Option (List (Nat × Value))
  | [] => some []
  | (i, x) :: l => match ev σ x, evP σ l with
    | some v, some vs => some ((i, v) :: vs)
    | _, _ => none
theorem Slots.evP {a} (h : Slots n σ a) : ∀ {l : List (Nat × Operand)} {vs : List (Nat × Value)}, Sx.evP σ l = some vs → l.map (fun (i, x) => (i, a.eval x)) = vs
  | [], vs, hx => by cases hx; rfl
  | (i, x) :: l, vs, hx => by
    unfold Sx.evP at hx
    split at hx
    · rename_i v vs' h1 h2
      cases hx
      simp only [List.map_cons, h.ev h1, Slots.evP h h2]
    · cases hx
theorem p_bld {T : World → Prop} {t : TypeId} {parts : List (Nat × Operand)} {pl : List (Nat × Nat)} {zs cs : List Value} {ps : List (Nat × Value)} (hb : SB P t pl zs) (hp : evP σ parts = some ps) (hf : Fill pl ps zs cs) :
    Pu P n σ T ⟨some d, .build t parts.toArray, ty, pos, af, none⟩ (.agg cs.toArray) :=
  fun a hs w _ => by
    have hm := hs.evP hp
    have h2 : (parts.toArray.map (fun (x : Nat × Operand) => (x.1, a.eval x.2))).toList = ps := by simpa using hm
    have := hb (parts.toArray.map (fun (x : Nat × Operand) => (x.1, a.eval x.2))) cs.toArray (by rw [h2]; exact hf.run) w
    simp only [execOp, Sem.run_bind, this, Result.andThen_ok, Sem.run_pure]
end

/-! ### a region that draws its order -/
section
variable {P : Program} {ops : Array Oper} {Q : Exit → Act → World → Prop} {md : Region.Mode}
/-- late j i: operation j waits for operation i, over others -/
def lateB (md : Region.Mode) (ops : Array Oper) : Nat → Nat → Nat → Bool
  | 0, _, _ => false
  | f + 1, j, i => match ops[j]? with
    | some oj => oj.after.any fun e => Region.binds md e && (e.on == i || lateB md ops f e.on i)
    | none => false
theorem lateB_spec {md ops} : ∀ {f j i}, lateB md ops f j i = true → ∃ oj, ops[j]? = some oj ∧ ∃ e ∈ oj.after, Region.binds md e = true ∧ (e.on = i ∨ lateB md ops (f - 1) e.on i = true)
  | 0, j, i, h => by cases h
  | f + 1, j, i, h => by
    unfold lateB at h
    split at h
    · rename_i oj hj
      obtain ⟨e, he, hb⟩ := Array.any_eq_true'.1 h
      simp only [Bool.and_eq_true, Bool.or_eq_true, beq_iff_eq] at hb
      exact ⟨oj, hj, e, he, hb.1, hb.2⟩
    · cases h
/-- what has come up is closed -/
def Closed (md : Region.Mode) (ops : Array Oper) (listed : Array Bool) : Prop := ∀ j oj, ops[j]? = some oj → listed.getD j false = true → ∀ e ∈ oj.after, Region.binds md e = true → listed.getD e.on false = true
theorem Closed.late {listed : Array Bool} (hc : Closed md ops listed) : ∀ {f j i}, lateB md ops f j i = true → (∀ oj, ops[j]? = some oj → ∀ e ∈ oj.after, Region.binds md e = true → listed.getD e.on false = true) → listed.getD i false = true
  | 0, j, i, h, _ => by cases h
  | f + 1, j, i, h, hall => by
    obtain ⟨oj, hj, e, he, hb, h'⟩ := lateB_spec h
    have he' := hall oj hj e he hb
    rcases h' with rfl | h'
    · exact he'
    · exact hc.late (f := f) h' (fun oj' hj' e' he1 hb' => hc e.on oj' hj' he' e' he1 hb')
theorem Closed.set {listed : Array Bool} (hc : Closed md ops listed) {i : Nat} (hi : i ∈ Region.ready md ops listed) : Closed md ops (listed.setIfInBounds i true) := by
  obtain ⟨_, oi, hoi, hall⟩ := mem_ready.1 hi
  intro j oj hj hl e he hb
  by_cases hij : i = j
  · subst hij
    have : oj = oi := Option.some.inj (hj.symm.trans hoi)
    subst this
    exact getD_set_true (hall e he hb)
  · rw [getD_set_ne false hij] at hl
    exact getD_set_true (hc j oj hj hl e he hb)
/-- nobody of those that have come up waits for k -/
def live (md : Region.Mode) (ops : Array Oper) (eff : Nat → Bool) (listed : Array Bool) (k : Nat) : Bool := (List.range ops.size).all fun j => !(eff j && listed.getD j false && lateB md ops ops.size j k)
/-- whatever order; T k: what number k's yield asks of a world: shown anew behind each operation, as long as nobody that waits for k has come up -/
def wpAnyT (P : Program) (md : Region.Mode) (ops : Array Oper) (Q : Exit → Act → World → Prop) (eff : Nat → Bool) (T : Nat → World → Prop) : Nat → Array Bool → Act → World → Prop
  | 0, listed, a, w => Region.ready md ops listed = [] ∧ Q .normal a w
  | fuel + 1, listed, a, w =>
    (Region.ready md ops listed = [] → Q .normal a w) ∧
    ∀ i ∈ Region.ready md ops listed, wpOp P ops Q i (fun a' w' => (∀ k, live md ops eff (listed.setIfInBounds i true) k = true → T k w') ∧ wpAnyT P md ops Q eff T fuel (listed.setIfInBounds i true) a' w') a w
theorem wpAny_of_T {eff T} : ∀ (fuel : Nat) (listed : Array Bool) (a : Act) (w : World), wpAnyT P md ops Q eff T fuel listed a w → wpAny P md ops Q fuel listed a w
  | 0, _, _, _, h => h
  | fuel + 1, _, _, _, h => ⟨h.1, fun i hi => wpOp_mono (fun a' w' h' => wpAny_of_T fuel _ a' w' h'.2) (h.2 i hi)⟩
theorem unlisted {listed : Array Bool} {i : Nat} (h0 : listed.getD i true = false) : listed.getD i false = false := by
  rcases Nat.lt_or_ge i listed.size with h' | h'
  · simp [h'] at h0 ⊢; exact h0
  · simp [Array.getElem?_eq_none h'] at h0
theorem not_late {listed : Array Bool} (hcl : Closed md ops listed) {i j : Nat} (hi : listed.getD i false = false) {oj : Oper} (hoj : ops[j]? = some oj) (hall : ∀ e ∈ oj.after, Region.binds md e = true → listed.getD e.on false = true) : lateB md ops ops.size j i = false := by
  cases hl : lateB md ops ops.size j i with
  | false => rfl
  | true =>
    have := hcl.late hl (fun oj' hj' e he hb => by
      have : oj' = oj := Option.some.inj (hj'.symm.trans hoj)
      subst this
      exact hall e he hb)
    rw [hi] at this
    cases this
/-- of a closed set, nobody waits for who has not come up -/
theorem live_of {eff : Nat → Bool} {listed : Array Bool} (hcl : Closed md ops listed) {i : Nat} (hi : listed.getD i false = false) : live md ops eff listed i = true := by
  refine List.all_eq_true.2 fun j hj => ?_
  cases hl : listed.getD j false with
  | false => simp
  | true =>
    have hlt : j < ops.size := List.mem_range.1 hj
    have := not_late hcl hi (Array.getElem?_eq_getElem hlt) (fun e he hb => hcl j _ (Array.getElem?_eq_getElem hlt) hl e he hb)
    simp [this]
theorem live_set {eff : Nat → Bool} {listed : Array Bool} {i k : Nat} (h : live md ops eff listed k = true) (hi : eff i = false ∨ lateB md ops ops.size i k = false) : live md ops eff (listed.setIfInBounds i true) k = true := by
  refine List.all_eq_true.2 fun j hj => ?_
  by_cases hij : i = j
  · subst hij; rcases hi with hi | hi <;> simp [hi]
  · rw [getD_set_ne false hij]
    exact List.all_eq_true.1 h j hj
theorem wpAnyT_first {eff : Nat → Bool} {T : Nat → World → Prop} {i : Nat} {oi : Oper} {v : Value} (hi : ops[i]? = some oi) (hsel : ∀ (j : Nat) (o : Oper) cs b, ops[j]? = some o → o.op ≠ .select cs b)
    (hQ : ∀ c a w, Q (.panic c) (a.put oi.dst v) w → Q (.panic c) a w) (heff : eff i = false) :
    ∀ (fuel : Nat) (listed : Array Bool) (a : Act) (w : World), Closed md ops listed →
      (∀ j oj, ops[j]? = some oj → j ≠ i → listed.getD j true = false → (∀ e ∈ oj.after, Region.binds md e = true → e.on ≠ i) → oi.apart ops oj = true) →
      i ∈ Region.ready md ops listed → YieldsIf P ops (T i) oi v a → (∀ k, live md ops eff listed k = true → T k w) →
      wpAnyT P md ops Q eff T fuel (listed.setIfInBounds i true) (a.put oi.dst v) w → wpAnyT P md ops Q eff T (fuel + 1) listed a w := by
  have hlv : ∀ (listed : Array Bool) k, live md ops eff (listed.setIfInBounds i true) k = true → live md ops eff listed k = true := by
    intro listed k h
    refine List.all_eq_true.2 fun j hj => ?_
    by_cases hij : i = j
    · subst hij; simp [heff]
    · have := List.all_eq_true.1 h j hj
      rwa [getD_set_ne false hij] at this
  intro fuel
  induction fuel with
  | zero =>
    intro listed a w hcl _ hr hy hTw H
    have hS := hTw i (live_of hcl (unlisted (mem_ready.1 hr).1))
    refine ⟨fun h => (by rw [h] at hr; cases hr), fun j hj => ?_⟩
    by_cases hji : j = i
    · subst hji; exact hy.wpOp hi hS ⟨fun k hk => hTw k (hlv _ k hk), H⟩
    · have := ready_mono hj hji
      rw [H.1] at this
      cases this
  | succ fuel ih =>
    intro listed a w hcl hfree hr hy hTw H
    have hiun := unlisted (mem_ready.1 hr).1
    have hS := hTw i (live_of hcl hiun)
    refine ⟨fun h => (by rw [h] at hr; cases hr), fun j hj => ?_⟩
    by_cases hji : j = i
    · subst hji; exact hy.wpOp hi hS ⟨fun k hk => hTw k (hlv _ k hk), H⟩
    · have h1 := H.2 j (ready_mono hj hji)
      obtain ⟨hjun, oj, hoj, hall⟩ := mem_ready.1 hj
      have hnot : ∀ e ∈ oj.after, Region.binds md e = true → e.on ≠ i := fun e he hb heq => by
        have h1 := hall e he hb
        rw [heq, hiun] at h1
        cases h1
      have h2 := wpOp_putIf hoj (hfree j oj hoj hji hjun hnot) (fun cs b => hsel i oi cs b hi) (fun cs b => hsel j oj cs b hoj) hQ hy h1
      have hfree' : ∀ k ok, ops[k]? = some ok → k ≠ i → (listed.setIfInBounds j true).getD k true = false →
          (∀ e ∈ ok.after, Region.binds md e = true → e.on ≠ i) → oi.apart ops ok = true := fun k ok hk hki hun hno => by
        refine hfree k ok hk hki ?_ hno
        by_cases hjk : j = k
        · subst hjk; exact hjun
        · rw [getD_set_ne true hjk] at hun; exact hun
      have hsw : (listed.setIfInBounds j true).setIfInBounds i true = (listed.setIfInBounds i true).setIfInBounds j true := Array.setIfInBounds_comm _ _ hji
      refine wpOp_mono (fun a' w' h3 => ?_) h2
      obtain ⟨hy', hT', hW⟩ := h3
      have hT2 : ∀ k, live md ops eff (listed.setIfInBounds j true) k = true → T k w' := fun k hk => hT' k (by rw [← hsw]; exact live_set hk (.inl heff))
      exact ⟨hT2, ih (listed.setIfInBounds j true) a' w' (hcl.set hj) hfree' (ready_mono hr (Ne.symm hji)) hy' hT2 (by rw [hsw]; exact hW)⟩
theorem getD_replicate_false (m j : Nat) : (Array.replicate m false).getD j false = false := by
  rcases Nat.lt_or_ge j m with h | h
  · simp [h]
  · simp [h]
theorem closed_none : Closed md ops (Array.replicate ops.size false) := fun j oj _ hl => (by rw [getD_replicate_false] at hl; cases hl)

/-! ### the moves of a walk through such a region -/
def lst (n : Nat) : List Nat → Array Bool
  | [] => Array.replicate n false
  | i :: L => (lst n L).setIfInBounds i true
/-- what is asked of a world for the loads that have not come up -/
def TT (TL : List (Nat × Nat × Nat × List Value)) (k : Nat) (w : World) : Prop := ∀ e ∈ TL, e.1 = k → Is e.2.1 e.2.2.1 e.2.2.2 w
def TrA (P : Program) (ops : Array Oper) (Q : Exit → Act → World → Prop) (ef : List Nat) (TL : List (Nat × Nat × Nat × List Value)) (S : Act → World → Prop) (fuel : Nat) (L : List Nat) : Prop :=
  Closed .any ops (lst ops.size L) → ∀ a w, S a w → (∀ k, live .any ops (ef.contains ·) (lst ops.size L) k = true → TT TL k w) → wpAnyT P .any ops Q (ef.contains ·) (TT TL) fuel (lst ops.size L) a w
variable {ef : List Nat} {TL : List (Nat × Nat × Nat × List Value)} {fuel : Nat} {L : List Nat} {S S' : Act → World → Prop}
variable {M0 F0 : Nat → Prop} {w0 : World} {n : Nat} {σ : List (Nat × Value)} {Ξ : List Xsn} {Γ : List Asn} {d : Nat} {ty : TypeId} {pos : String} {af : Array Edge}
/-- the facts on the loads, out of the state -/
inductive TOk (ops : Array Oper) (ef : List Nat) (L : List Nat) (S : Act → World → Prop) : List (Nat × Nat × Nat × List Value) → Prop
  | d : TOk ops ef L S []
  | x {k b o vs r} : live .any ops (ef.contains ·) (lst ops.size L) k = false → TOk ops ef L S r → TOk ops ef L S ((k, b, o, vs) :: r)
  | t {k b o vs r} : (∀ a w, S a w → Is b o vs w) → TOk ops ef L S r → TOk ops ef L S ((k, b, o, vs) :: r)
theorem TOk.get (h : TOk ops ef L S TL) : ∀ a w, S a w → ∀ k, live .any ops (ef.contains ·) (lst ops.size L) k = true → TT TL k w := by
  intro a w hS k hk
  induction h with
  | d => intro e he; cases he
  | x hl _ ih =>
    intro e he hek
    cases he with
    | head => subst hek; rw [hl] at hk; cases hk
    | tail _ he => exact ih e he hek
  | t hl _ ih =>
    intro e he hek
    cases he with
    | head => exact hl a w hS
    | tail _ he => exact ih e he hek
theorem isBoxS {i b o k : Nat} {bt : TypeId} {cs r : List Value} (hi : At (box b bt cs) i Ξ) (hv : Cut o k cs r) : ∀ a w, St M0 F0 w0 n σ Ξ Γ a w → Is b o r w := fun a w ⟨_, Fs, hh⟩ => isBox hi hv Fs w hh
theorem isBoxE {X : Type} {σ : X → List (Nat × Value)} {Ξ : X → List Xsn} {Γ : X → List Asn} {b o : Nat} {r : List Value} (h : ∀ x, ∀ a w, St M0 F0 w0 n (σ x) (Ξ x) (Γ x) a w → Is b o r w) : ∀ a w, (∃ x, St M0 F0 w0 n (σ x) (Ξ x) (Γ x) a w) → Is b o r w := fun a w ⟨x, hh⟩ => h x a w hh
/-- the beginning -/
theorem cd {id : Nat} {l : List Oper} (ef : List Nat) (TL : List (Nat × Nat × Nat × List Value)) (hm : P.follows .mixedOrders = true) (hT : TOk l.toArray ef [] (St M0 F0 w0 n σ Ξ Γ) TL) (k : TrA P l.toArray Q ef TL (St M0 F0 w0 n σ Ξ Γ) l.length []) :
    TrC P Q (St M0 F0 w0 n σ Ξ Γ) (.region id l.toArray true) := by
  rintro a w ⟨hs, Fs, hh⟩
  have hS : St M0 F0 w0 n σ Ξ Γ a { w with drawn := w.drawn + 1 } := ⟨hs, Fs, hh.same rfl rfl rfl rfl⟩
  have h1 := k (closed_none) a _ hS (hT.get a _ hS)
  exact wp_region_any hm (by simpa [lst] using wpAny_of_T _ _ _ _ h1)
/-- number i, which only yields a value, is taken first -/
theorem tk (i : Nat) {T : World → Prop} {o : Op} {v : Value} {g : Option (Nat × Bool)} (hi : ops[i]? = some ⟨some d, o, ty, pos, af, g⟩) (hck : (Region.noSelect ops && Region.free .any ops (lst ops.size L) i && (Region.ready .any ops (lst ops.size L)).contains i && !ef.contains i) = true)
    (hQ : ∀ c a w, Q (.panic c) (a.put (some d) v) w → Q (.panic c) a w) (hg : ∀ a, Slots n σ a → Region.wanted ⟨some d, o, ty, pos, af, g⟩ (yielded ops a.tmps) = true) (hT : ∀ w, TT TL i w → T w) (hp : Pu P n σ T ⟨some d, o, ty, pos, af, g⟩ v) (hd : Nat.blt d n = true)
    (k : TrA P ops Q ef TL (St M0 F0 w0 n ((d, v) :: σ) Ξ Γ) fuel (i :: L)) : TrA P ops Q ef TL (St M0 F0 w0 n σ Ξ Γ) (fuel + 1) L := by
  simp only [Bool.and_eq_true, Bool.not_eq_true'] at hck
  obtain ⟨⟨⟨h1, h2⟩, h3⟩, h4⟩ := hck
  rintro hcl a w ⟨hs, hh⟩ hTw
  have h3' : i ∈ Region.ready .any ops (lst ops.size L) := by simpa using h3
  refine wpAnyT_first hi (Region.noSelect_spec h1) hQ h4 fuel _ a w hcl (Region.free_spec hi h2) h3' (.inl ⟨hg a hs, fun w' hw' => hp a hs w' (hT w' hw')⟩) hTw ?_
  refine k (hcl.set h3') _ _ ⟨hs.put hd, hh⟩ (fun k hk => hTw k ?_)
  refine List.all_eq_true.2 fun j hj => ?_
  by_cases hij : i = j
  · subst hij; simp only [h4]; simp
  · have := List.all_eq_true.1 hk j hj
    rw [show lst ops.size (i :: L) = (lst ops.size L).setIfInBounds i true from rfl] at this
    rwa [getD_set_ne false hij] at this
/-- a guard that says no -/
theorem tks (i : Nat) {o : Op} {j : Nat} {want b : Bool} {o' : Oper} {t : Nat} (hi : ops[i]? = some ⟨some d, o, ty, pos, af, some (j, want)⟩) (hck : (Region.noSelect ops && Region.free .any ops (lst ops.size L) i && (Region.ready .any ops (lst ops.size L)).contains i && !ef.contains i) = true)
    (hQ : ∀ c a w, Q (.panic c) (a.put (some d) undef) w → Q (.panic c) a w) (hj : ops[j]? = some o') (ht : o'.dst = some t) (hb : look σ t = some (.bool b)) (hne : (b == want) = false) (hd : Nat.blt d n = true)
    (k : TrA P ops Q ef TL (St M0 F0 w0 n ((d, undef) :: σ) Ξ Γ) fuel (i :: L)) : TrA P ops Q ef TL (St M0 F0 w0 n σ Ξ Γ) (fuel + 1) L := by
  simp only [Bool.and_eq_true, Bool.not_eq_true'] at hck
  obtain ⟨⟨⟨h1, h2⟩, h3⟩, h4⟩ := hck
  rintro hcl a w ⟨hs, hh⟩ hTw
  have h3' : i ∈ Region.ready .any ops (lst ops.size L) := by simpa using h3
  have hy : yielded ops a.tmps j = some b := by
    have := hs.val t _ hb
    have h2 : a.tmps[t]? = some (.bool b) := by
      cases h : a.tmps[t]? with
      | none => simp [Array.getD_eq_getD_getElem?, h, undef] at this
      | some v => simpa [Array.getD_eq_getD_getElem?, h] using this
    simp [yielded, hj, ht, h2]
  refine wpAnyT_first hi (Region.noSelect_spec h1) hQ h4 fuel _ a w hcl (Region.free_spec hi h2) h3' (.inr ⟨by simp [Region.wanted, hy, hne], rfl⟩) hTw ?_
  refine k (hcl.set h3') _ _ ⟨hs.put hd, hh⟩ (fun k hk => hTw k ?_)
  refine List.all_eq_true.2 fun j hj => ?_
  by_cases hij : i = j
  · subst hij; simp only [h4]; simp
  · have := List.all_eq_true.1 hk j hj
    rw [show lst ops.size (i :: L) = (lst ops.size L).setIfInBounds i true from rfl] at this
    rwa [getD_set_ne false hij] at this
/-- number i is carried out (one of those that may come up) -/
def Does (P : Program) (ops : Array Oper) (Q : Exit → Act → World → Prop) (ef : List Nat) (TL : List (Nat × Nat × Nat × List Value)) (S : Act → World → Prop) (fuel : Nat) (L : List Nat) (i : Nat) : Prop :=
  i ∈ Region.ready .any ops (lst ops.size L) → Closed .any ops (lst ops.size L) → ∀ a w, S a w → wpOp P ops Q i (fun a' w' => (∀ k, live .any ops (ef.contains ·) ((lst ops.size L).setIfInBounds i true) k = true → TT TL k w') ∧ wpAnyT P .any ops Q (ef.contains ·) (TT TL) fuel ((lst ops.size L).setIfInBounds i true) a' w') a w
theorem doR {i : Nat} {o : Oper} (hi : ops[i]? = some o) (h : OpR P o S S') (hT : TOk ops ef (i :: L) S' TL) (k : TrA P ops Q ef TL S' fuel (i :: L)) : Does P ops Q ef TL S fuel L i := by
  intro hr hcl a w hS
  unfold wpOp
  simp only [hi]
  obtain ⟨hg, hw⟩ := h (fun a' w' => (∀ k, live .any ops (ef.contains ·) ((lst ops.size L).setIfInBounds i true) k = true → TT TL k w') ∧ wpAnyT P .any ops Q (ef.contains ·) (TT TL) fuel ((lst ops.size L).setIfInBounds i true) a' w') Q a w hS (fun a' w' hS' => ⟨hT.get a' w' hS', k (hcl.set hr) a' w' hS' (hT.get a' w' hS')⟩)
  rw [if_pos (by simp [Region.wanted, hg])]
  exact .inl hw
theorem df (i : Nat) (hr : Region.ready .any ops (lst ops.size L) = [i]) (h : Does P ops Q ef TL S fuel L i) : TrA P ops Q ef TL S (fuel + 1) L := by
  intro hcl a w hS hT
  refine ⟨fun h0 => (by rw [hr] at h0; cases h0), fun j hj => ?_⟩
  have : j = i := by rw [hr] at hj; simpa using hj
  subst this
  exact h hj hcl a w hS
theorem dall {is : List Nat} (hr : Region.ready .any ops (lst ops.size L) = is) (hne : is.isEmpty = false) (h : ∀ i ∈ is, Does P ops Q ef TL S fuel L i) : TrA P ops Q ef TL S (fuel + 1) L := by
  intro hcl a w hS hT
  refine ⟨fun h0 => (by rw [hr] at h0; rw [h0] at hne; cases hne), fun j hj => h j (by rw [← hr]; exact hj) hj hcl a w hS⟩
theorem dn {fuel : Nat} (hr : Region.ready .any ops (lst ops.size L) = []) (k : TrN Q .normal S) : TrA P ops Q ef TL S fuel L := by
  intro hcl a w hS hT
  cases fuel with
  | zero => exact ⟨hr, k a w hS⟩
  | succ f => exact ⟨fun _ => k a w hS, by rw [hr]; simp⟩
theorem ea {X : Type} {S : X → Act → World → Prop} (k : ∀ x, TrA P ops Q ef TL (S x) fuel L) : TrA P ops Q ef TL (fun a w => ∃ x, S x a w) fuel L := fun hcl a w ⟨x, h⟩ hT => k x hcl a w h hT
theorem amono (hs : ∀ a w, S a w → S' a w) (k : TrA P ops Q ef TL S' fuel L) : TrA P ops Q ef TL S fuel L := fun hcl a w h hT => k hcl a w (hs a w h) hT
theorem gnone {o : Op} (a : Act) (h : Slots n σ a) : Region.wanted ⟨some d, o, ty, pos, af, none⟩ (yielded ops a.tmps) = true := rfl
theorem gyes {o : Op} {j : Nat} {want b : Bool} {o' : Oper} {t : Nat} (hj : ops[j]? = some o') (ht : o'.dst = some t) (hb : look σ t = some (.bool b)) (he : (b == want) = true) (a : Act) (hs : Slots n σ a) : Region.wanted ⟨some d, o, ty, pos, af, some (j, want)⟩ (yielded ops a.tmps) = true := by
  have := hs.val t _ hb
  have h2 : a.tmps[t]? = some (.bool b) := by
    cases h : a.tmps[t]? with
    | none => simp [Array.getD_eq_getD_getElem?, h, undef] at this
    | some v => simpa [Array.getD_eq_getD_getElem?, h] using this
  have hy : yielded ops a.tmps j = some b := by simp [yielded, hj, ht, h2]
  simpa [Region.wanted, hy] using he
theorem gpu {o : Op} {v : Value} {T : World → Prop} {g : Option (Nat × Bool)} (h : Pu P n σ T ⟨some d, o, ty, pos, af, none⟩ v) : Pu P n σ T ⟨some d, o, ty, pos, af, g⟩ v := h
theorem TTany (i : Nat) : ∀ w, TT TL i w → Any w := fun _ _ => trivial
theorem TTat {i b o : Nat} {vs : List Value} (h : (i, b, o, vs) ∈ TL) : ∀ w, TT TL i w → Is b o vs w := fun w hw => hw _ h rfl
end
end Go.Sx
