/- OWN WORK: a part of the proof of a law of the seat YtaojmjfgopbgcaaDoor: the rules by which the code is walked. -/
import Derived.Test.YtaojmjfgopbgcaaDoorXSxC
import Derived.Deep.LoopGhost
set_option linter.unusedVariables false
set_option linter.unusedSimpArgs false
namespace Go.Sx
open Go Go.RowKit

/-! ### data -/
/-- how a kind of data lies in cells: by a layout -/
class Rp (α : Type) where
  Lay : Type
  size : Nat
  enc : α → Lay → List Value
  len : ∀ x y, (enc x y).length = size
  one : ∀ x y, ∀ v ∈ enc x y, v.oneCell' = true
  asn : α → Lay → List Asn

/-- a slice's elements, as they lie -/
def slA {α : Type} [Rp α] (A : Option Addr) (l : List α) : Asn where
  p M w := ∀ j x, l[j]? = some x → ∃ b o y, A = some ⟨b, o, none⟩ ∧ ¬ M b ∧ b < w.heap.size ∧
    (∀ i v, (Rp.enc x y)[i]? = some v → w.cell? ⟨b, o + j * Rp.size α + i, none⟩ = some v) ∧ ∀ p ∈ Rp.asn x y, p.p M w
  st := by
    intro M M' w w' h hb hm hs j x hj
    obtain ⟨b, o, y, hA, hM, hlt, hc, ha⟩ := h j x hj
    refine ⟨b, o, y, hA, fun h' => hM (hm b hlt h'), Nat.lt_of_lt_of_le hlt hs, fun i v hi => ?_, fun p hp => p.st _ _ _ _ (ha p hp) hb hm hs⟩
    rw [World.cell?_of_block (w := w) (hb b hlt hM)]
    exact hc i v hi

instance : Rp ByteArray where
  Lay := Unit
  size := 1
  enc x _ := [.string x]
  len _ _ := rfl
  one _ _ v hv := by
    simp only [List.mem_cons, List.mem_nil_iff, or_false] at hv
    subst hv; rfl
  asn _ _ := []
instance instRpInt : Rp Int where
  Lay := Unit
  size := 1
  enc x _ := [.int .i64 x]
  len _ _ := rfl
  one _ _ v hv := by
    simp only [List.mem_cons, List.mem_nil_iff, or_false] at hv
    subst hv; rfl
  asn _ _ := []
instance : Rp Bool where
  Lay := Unit
  size := 1
  enc x _ := [.bool x]
  len _ _ := rfl
  one _ _ v hv := by
    simp only [List.mem_cons, List.mem_nil_iff, or_false] at hv
    subst hv; rfl
  asn _ _ := []
instance instRpList {α : Type} [Rp α] : Rp (List α) where
  Lay := Option Addr × Nat
  size := 1
  enc l y := [.slice y.1 l.length y.2]
  len _ _ := rfl
  one _ _ v hv := by
    simp only [List.mem_cons, List.mem_nil_iff, or_false] at hv
    subst hv; rfl
  asn l y := [slA y.1 l]

/-- facts that are among those that stand -/
inductive In {α : Type} (x : α) : List α → Prop
  | z {l} : In x (x :: l)
  | s {y l} : In x l → In x (y :: l)
theorem In.mem {α : Type} {x : α} {l : List α} (h : In x l) : x ∈ l := by
  induction h with
  | z => exact List.mem_cons_self
  | s _ ih => exact List.mem_cons_of_mem _ ih
inductive Sub : List Asn → List Asn → Prop
  | d {Γ} : Sub [] Γ
  | s {g r Γ} : In g Γ → Sub r Γ → Sub (g :: r) Γ
theorem Sub.mem {Γi Γ : List Asn} (h : Sub Γi Γ) : ∀ p ∈ Γi, p ∈ Γ := by
  induction h with
  | d => intro p hp; cases hp
  | s hi _ ih =>
    intro p hp
    cases hp with
    | head => exact hi.mem
    | tail _ hp => exact ih p hp

/-- the facts behind some others -/
inductive Suf (Γi : List Asn) : List Asn → Prop
  | z : Suf Γi Γi
  | s {g Γ} : Suf Γi Γ → Suf Γi (g :: Γ)
theorem Suf.mem {Γi Γ : List Asn} (h : Suf Γi Γ) : ∀ p ∈ Γi, p ∈ Γ := by
  induction h with
  | z => exact fun _ h => h
  | s _ ih => exact fun p hp => List.mem_cons_of_mem _ (ih p hp)
theorem Sub.mk : ∀ {Γi Γ : List Asn}, (∀ p ∈ Γi, p ∈ Γ) → Sub Γi Γ
  | [], _, _ => .d
  | g :: r, Γ, h => .s (go (h g (by simp))) (Sub.mk fun p hp => h p (by simp [hp]))
where go {g : Asn} : ∀ {Γ : List Asn}, g ∈ Γ → In g Γ
  | _ :: _, h => by
    rcases List.mem_cons.1 h with e | h
    · rw [← e]; exact In.z
    · exact In.s (go h)
theorem Sub.suf {Γi Γ : List Asn} (h : Suf Γi Γ) : Sub Γi Γ := Sub.mk h.mem
theorem Sub.app {Γ1 Γ2 Γ : List Asn} (h1 : Sub Γ1 Γ) (h2 : Sub Γ2 Γ) : Sub (Γ1 ++ Γ2) Γ := Sub.mk fun p hp => (List.mem_append.1 hp).elim (h1.mem p) (h2.mem p)

section
variable {P : Program} {M0 F0 : Nat → Prop} {w0 : World} {n : Nat} {σ : List (Nat × Value)} {Ξ : List Xsn} {Γ : List Asn} {d : Nat} {ty : TypeId} {pos : String} {af : Array Edge}
variable {ops : Array Oper} {Q : Exit → Act → World → Prop}

/-! a call -/
theorem o_call {f : FuncId} {args : List Operand} {tys : Array TypeId} {vs : List Value} {Ξi Ξ' : List Xsn} {Γi : List Asn} {X : Type} {rv : X → Value} {Ξo : X → List Xsn} {Γo : X → List Asn} {is : List Nat}
    (hcf : ∀ args w, (callFunc f args).run P w = .ok (.enter f args) w) (hc : Con P f vs Ξi Γi X rv Ξo Γo) (ha : evL σ args = some vs) (hs : takeAll is Ξ = some (Ξi, Ξ')) (hg : Sub Γi Γ) (hd : Nat.blt d n = true) :
    OpR P ⟨some d, .call ⟨.value (.func f), args.toArray, tys⟩, ty, pos, af, none⟩ (St M0 F0 w0 n σ Ξ Γ) (fun a w => ∃ x, St M0 F0 w0 n ((d, rv x) :: σ) (Ξo x ++ Ξ') (Γo x ++ Γ) a w) := by
  refine OpR.of_enter rfl fun a w ⟨hsl, Fs, hh⟩ => ⟨f, vs.toArray, ?_, ?_⟩
  · have hm := hsl.evL ha
    have : args.toArray.map a.eval = vs.toArray := by simp [hm]
    simp [execOp, resolve, Deferred.ofValue, invoke, Act.eval, this, hcf]
  · obtain ⟨Gs, Hs, hp, hin, hr⟩ := hh.select hs hg.mem
    refine (hc _ Gs w hin).mono ?_
    rintro e w' ⟨x, Fs', rfl, hout⟩
    exact ⟨_, rfl, x, hsl.put hd, _, hh.back hp hr hout⟩
/-- a call through a function value -/
theorem o_callv {fx : Operand} {g : FuncId} {fst cap : List Value} {args : List Operand} {tys : Array TypeId} {vs vs' : List Value} {Ξi Ξ' : List Xsn} {Γi : List Asn} {X : Type} {rv : X → Value} {Ξo : X → List Xsn} {Γo : X → List Asn} {is : List Nat}
    (hf : ev σ fx = some (.func (.func g) fst.toArray cap.toArray)) (hcf : ∀ args w, (callFunc g args).run P w = .ok (.enter g args) w) (hc : Con P g vs' Ξi Γi X rv Ξo Γo) (ha : evL σ args = some vs) (hv : fst ++ vs ++ cap = vs') (hs : takeAll is Ξ = some (Ξi, Ξ')) (hg : Sub Γi Γ) (hd : Nat.blt d n = true) :
    OpR P ⟨some d, .call ⟨.value fx, args.toArray, tys⟩, ty, pos, af, none⟩ (St M0 F0 w0 n σ Ξ Γ) (fun a w => ∃ x, St M0 F0 w0 n ((d, rv x) :: σ) (Ξo x ++ Ξ') (Γo x ++ Γ) a w) := by
  subst hv
  refine OpR.of_enter rfl fun a w ⟨hsl, Fs, hh⟩ => ⟨g, (fst ++ vs ++ cap).toArray, ?_, ?_⟩
  · have hm := hsl.evL ha
    have : args.toArray.map a.eval = vs.toArray := by simp [hm]
    simp [execOp, resolve, Deferred.ofValue, invoke, hsl.ev hf, this, hcf]
  · obtain ⟨Gs, Hs, hp, hin, hr⟩ := hh.select hs hg.mem
    refine (hc _ Gs w hin).mono ?_
    rintro e w' ⟨x, Fs', rfl, hout⟩
    exact ⟨_, rfl, x, hsl.put hd, _, hh.back hp hr hout⟩

/-! the guard -/
theorem lskip {d' j : Nat} {want b : Bool} {op : Op} {l : List Oper} {t : Nat} {o' : Oper} (hj : ops[j]? = some o') (ht : o'.dst = some t) (hb : look σ t = some (.bool b)) (hne : (b == want) = false) (hd : Nat.blt d' n = true)
    (k : TrL P ops Q (St M0 F0 w0 n ((d', undef) :: σ) Ξ Γ) l) : TrL P ops Q (St M0 F0 w0 n σ Ξ Γ) (⟨some d', op, ty, pos, af, some (j, want)⟩ :: l) := by
  intro a w hS
  obtain ⟨hs, hh⟩ := hS
  have hy : yielded ops a.tmps j = some b := by
    have := hs.val t _ hb
    have h2 : a.tmps[t]? = some (.bool b) := by
      cases h : a.tmps[t]? with
      | none => simp [Array.getD_eq_getD_getElem?, h, undef] at this
      | some v => simpa [Array.getD_eq_getD_getElem?, h] using this
    simp [yielded, hj, ht, h2]
  unfold wpList
  rw [if_neg (by simp [Region.wanted, hy, hne])]
  exact k _ _ ⟨hs.put hd, hh⟩
theorem lwant {dst : Option Nat} {j : Nat} {want b : Bool} {op : Op} {l : List Oper} {t : Nat} {o' : Oper} {S' : Act → World → Prop} (hj : ops[j]? = some o') (ht : o'.dst = some t) (hb : look σ t = some (.bool b)) (he : (b == want) = true)
    (h : OpR P ⟨dst, op, ty, pos, af, none⟩ (St M0 F0 w0 n σ Ξ Γ) S') (k : TrL P ops Q S' l) : TrL P ops Q (St M0 F0 w0 n σ Ξ Γ) (⟨dst, op, ty, pos, af, some (j, want)⟩ :: l) := by
  intro a w hS
  obtain ⟨hs, hh⟩ := hS
  have hy : yielded ops a.tmps j = some b := by
    have := hs.val t _ hb
    have h2 : a.tmps[t]? = some (.bool b) := by
      cases h : a.tmps[t]? with
      | none => simp [Array.getD_eq_getD_getElem?, h, undef] at this
      | some v => simpa [Array.getD_eq_getD_getElem?, h] using this
    simp [yielded, hj, ht, h2]
  unfold wpList
  rw [if_pos (by simpa [Region.wanted, hy] using he)]
  obtain ⟨hg, hw⟩ := h (wpList P ops Q l) Q a w ⟨hs, hh⟩ k
  exact .inl hw

/-! ways -/
theorem splitL {l : List Oper} (t : Nat) {b : Bool} (ht : look σ t = some (.bool b)) (hT : b = true → TrL P ops Q (St M0 F0 w0 n ((t, .bool true) :: σ) Ξ Γ) l) (hF : b = false → TrL P ops Q (St M0 F0 w0 n ((t, .bool false) :: σ) Ξ Γ) l) :
    TrL P ops Q (St M0 F0 w0 n σ Ξ Γ) l := by
  have up : ∀ a, Slots n σ a → Slots n ((t, .bool b) :: σ) a := fun a h => h.sub (by
    intro u v hu
    simp only [look] at hu
    split at hu
    · rename_i e
      have e' : t = u := Nat.eq_of_beq_eq_true e
      subst e'; cases hu; exact ht
    · exact hu)
  cases b with
  | true => exact fun a w ⟨hs, hh⟩ => hT rfl a w ⟨up a hs, hh⟩
  | false => exact fun a w ⟨hs, hh⟩ => hF rfl a w ⟨up a hs, hh⟩
theorem cc {c : Operand} {x y : Code} {b : Bool} (hc : ev σ c = some (.bool b)) (hT : b = true → TrC P Q (St M0 F0 w0 n σ Ξ Γ) x) (hF : b = false → TrC P Q (St M0 F0 w0 n σ Ξ Γ) y) : TrC P Q (St M0 F0 w0 n σ Ξ Γ) (.cond c x y) := by
  intro a w hS
  have he := hS.1.ev hc
  cases b with
  | true => exact wp_cond_true he (hT rfl a w hS)
  | false => exact wp_cond_false he (hF rfl a w hS)
/-- a fact is opened -/
theorem openΓ {g : Asn} {i : Nat} {Y : Type} {φ : Y → Prop} {Γy : Y → List Asn} {a : Act} {w : World} (hi : At g i Γ) (h : ∀ M w, g.p M w → ∃ y, φ y ∧ ∀ p ∈ Γy y, p.p M w) (hS : St M0 F0 w0 n σ Ξ Γ a w) : ∃ y, φ y ∧ St M0 F0 w0 n σ Ξ (Γy y ++ Γ) a w := by
  obtain ⟨hs, Fs, hh⟩ := hS
  obtain ⟨y, hy, hp⟩ := h _ w (hh.ga g (List.mem_of_getElem? hi.get))
  refine ⟨y, hy, hs, Fs, { hh with ga := fun p hp' => ?_ }⟩
  rcases List.mem_append.1 hp' with h1 | h1
  · exact hp p h1
  · exact hh.ga p h1

/-! leaving and forgetting -/
theorem Hp.drop {M0 F0 w0 Ξ Γ Fs w} (h : Hp M0 F0 w0 Ξ Γ Fs w) {is : List Nat} {xs Ξ' : List Xsn} {Γi : List Asn} (hs : takeAll is Ξ = some (xs, Ξ')) (hg : Sub Γi Γ) : ∃ Gs, Hp M0 F0 w0 xs Γi Gs w := by
  obtain ⟨Gs, Hs, hp, hin, _⟩ := h.select hs hg.mem
  have hown : ∀ b, own Fs b ↔ own Gs b ∨ own Hs b := fun b => (own_perm hp b).trans own_append
  have hM : ∀ b, b < w.heap.size → (M0 b ∨ own Gs b) → ((M0 b ∨ own Hs b) ∨ own Gs b) := fun b _ hm => hm.elim (fun h => .inl (.inl h)) .inr
  exact ⟨Gs, hin.ex.st (fun _ _ _ => rfl) hM (Nat.le_refl _), hin.dis, fun b hb => h.dis0 b ((hown b).2 (.inl hb)), hin.lt, fun b hb => h.old b ((hown b).2 (.inl hb)),
    fun p hp' => p.st _ _ _ _ (hin.ga p hp') (fun _ _ _ => rfl) hM (Nat.le_refl _), h.up, h.m0, h.f0⟩
theorem wk {σ' : List (Nat × Value)} {is : List Nat} {Ξ' Ξr : List Xsn} {Γ' : List Asn} (hσ : subσ σ σ') (hs : takeAll is Ξ = some (Ξ', Ξr)) (hg : Sub Γ' Γ) : ∀ a w, St M0 F0 w0 n σ Ξ Γ a w → St M0 F0 w0 n σ' Ξ' Γ' a w := by
  rintro a w ⟨hsl, Fs, hh⟩
  obtain ⟨Gs, hh'⟩ := hh.drop hs hg
  exact ⟨hsl.sub hσ, Gs, hh'⟩

/-- the results, as they stand -/
inductive Res (P : Program) (σ : List (Nat × Value)) (Ξ : List Xsn) : List ResultVar → List Value → Prop
  | d : Res P σ Ξ [] []
  | t {t v rs vs} : look σ t = some v → Res P σ Ξ rs vs → Res P σ Ξ (.tmp t :: rs) (v :: vs)
  | c {t ty b bt cs i k rs vs} : look σ t = some (.pointer (some ⟨b, 0, none⟩)) → (∀ w, (isAgg ty).run P w = .ok true w) → (∀ w, (sizeOf ty).run P w = .ok k w) → At (box b bt cs) i Ξ → cs.length = k → Res P σ Ξ rs vs → Res P σ Ξ (.cell t ty :: rs) (.agg cs.toArray :: vs)
  | c1 {t ty b bt v i rs vs} : look σ t = some (.pointer (some ⟨b, 0, none⟩)) → (∀ w, (isAgg ty).run P w = .ok false w) → At (box b bt [v]) i Ξ → Res P σ Ξ rs vs → Res P σ Ξ (.cell t ty :: rs) (v :: vs)
def packV : List Value → Value
  | [v] => v
  | vs => .tuple vs.toArray
def resVar (tmps : Array Value) : ResultVar → Sem Value
  | .tmp t => pure (tmps.getD t undef)
  | .cell p t => do loadVar t (← asAddr (tmps.getD p undef))
theorem Res.run {rs : List ResultVar} {vs : List Value} {a : Act} {w : World} {Fs} (h : Res P σ Ξ rs vs) (hs : Slots n σ a) (hh : Hp M0 F0 w0 Ξ Γ Fs w) : (rs.mapM (resVar a.tmps)).run P w = .ok vs w := by
  induction h with
  | d => rfl
  | t ht _ ih =>
    have := hs.val _ _ ht
    simp only [List.mapM_cons, resVar, Sem.run_bind, Sem.run_pure, Result.andThen_ok, this, ih]
  | @c t ty b bt cs i k rs vs ht hag hsz hi hk _ ih =>
    subst hk
    have h1 := hs.val _ _ ht
    have hr := run_loadCells_list (P := P) w ⟨b, 0, none⟩ cs (fun j v hj => by rw [Addr.add_lit, Nat.zero_add, cell_of (hh.cell hi.get)]; exact hj)
    have h2 : (loadVar ty ⟨b, 0, none⟩).run P w = .ok (.agg cs.toArray) w := by simp [loadVar, hag, hsz, hr]
    simp [List.mapM_cons, resVar, h1, asAddr, h2, ih]
  | @c1 t ty b bt v i rs vs ht hag hi _ ih =>
    have h1 := hs.val _ _ ht
    have hc := cell_of (hh.cell hi.get) 0
    have h2 : (loadVar ty ⟨b, 0, none⟩).run P w = .ok v w := by simp [loadVar, hag, hc]
    simp [List.mapM_cons, resVar, h1, asAddr, h2, ih]
theorem run_results {fn : Func} {a : Act} {w : World} {vs : List Value} (h : (fn.results.toList.mapM (resVar a.tmps)).run P w = .ok vs w) :
    (results fn a.tmps).run P w = .ok (packV vs) w := by
  have e : results fn a.tmps = (fn.results.mapM (resVar a.tmps)) >>= fun vs => pure (if h : vs.size = 1 then vs[0] else .tuple vs) := by
    unfold results
    congr 1
  rw [e, Array.mapM_eq_mapM_toList]
  simp only [Sem.run_bind, Sem.run_map, h, Result.andThen_ok]
  match vs with
  | [] => rfl
  | [v] => rfl
  | v :: u :: r => simp [packV]
/-- a function's end -/
def Post (P : Program) {X : Type} (rv : X → Value) (Ξo : X → List Xsn) (Γo : X → List Asn) (M0 F0 : Nat → Prop) (w0 : World) : Ending → World → Prop :=
  fun e w' => ∃ x Fs', e = .returned (rv x) ∧ Hp M0 F0 w0 (Ξo x) (Γo x) Fs' w'
theorem rret {fn : Func} {X : Type} {rv : X → Value} {Ξo : X → List Xsn} {Γo : X → List Asn} (x : X) {is : List Nat} {Ξr : List Xsn} {vs : List Value} {e : Exit} (he : e = .ret ∨ e = .normal) (hr : Res P σ Ξ fn.results.toList vs) (hv : packV vs = rv x)
    (hs : takeAll is Ξ = some (Ξo x, Ξr)) (hg : Sub (Γo x) Γ) : TrN (bodyPost P fn (Post P rv Ξo Γo M0 F0 w0)) e (St M0 F0 w0 n σ Ξ Γ) := by
  rintro a w ⟨hsl, Fs, hh⟩
  have h1 := run_results (hr.run hsl hh)
  obtain ⟨Gs, hh'⟩ := hh.drop hs hg
  rw [hv] at h1
  rcases he with rfl | rfl
  · exact ⟨hsl.defers, _, h1, x, Gs, rfl, hh'⟩
  · exact ⟨hsl.defers, _, h1, x, Gs, rfl, hh'⟩

/-- a function's begin -/
def initσ : Nat → List Value → List (Nat × Value)
  | _, [] => []
  | k, v :: vs => (k, v) :: initσ (k + 1) vs
theorem look_init : ∀ (vs : List Value) (k t : Nat) (v : Value), look (initσ k vs) t = some v → k ≤ t ∧ vs[t - k]? = some v
  | [], k, t, v, h => by cases h
  | u :: vs, k, t, v, h => by
    simp only [initσ, look] at h
    split at h
    · rename_i e
      have e' : k = t := Nat.eq_of_beq_eq_true e
      subst e'; cases h; simp
    · have := look_init vs (k + 1) t v h
      refine ⟨by omega, ?_⟩
      rw [show t - k = (t - (k + 1)) + 1 by omega]
      simpa using this.2
theorem con {f : FuncId} {fn : Func} {c : Code} {vs : List Value} {Ξi : List Xsn} {Γi : List Asn} {X : Type} {rv : X → Value} {Ξo : X → List Xsn} {Γo : X → List Asn}
    (hf : P.funcs[f]? = some fn) (hb : fn.body = some c) (hn : fn.ntmps = n) (hl : Nat.ble vs.length n = true)
    (h : ∀ M0 F0 w0, TrC P (bodyPost P fn (Post P rv Ξo Γo M0 F0 w0)) (St M0 F0 w0 n (initσ 0 vs) Ξi Γi) c) : Con P f vs Ξi Γi X rv Ξo Γo := by
  intro M0 Fs w hh
  have hl' : vs.length ≤ n := by simpa [Nat.ble_eq] using hl
  refine calls_of_wp hf hb (h M0 (own Fs) w _ _ ⟨⟨rfl, ?_, ?_⟩, Fs, hh⟩)
  · simp [hn]; omega
  · intro t v ht
    have := (look_init vs 0 t v ht).2
    simp only [Nat.sub_zero] at this
    have hlt : t < vs.length := (List.getElem?_eq_some_iff.1 this).1
    have h2 : vs[t] = v := (List.getElem?_eq_some_iff.1 this).2
    simp [Array.getD_eq_getD_getElem?, Array.getElem?_append, hlt, h2]

/-- a loop -/
theorem cl {ι : Type} {S : Act → World → Prop} {c : Code} (I : ι → Act → World → Prop) (m : ι → Nat) (i0 : ι) (h0 : ∀ a w, S a w → I i0 a w)
    (h : ∀ i, TrC P (Exit.then (fun a w => ∃ j, m j < m i ∧ I j a w) Q) (I i) c) : TrC P Q S (.loop c) := by
  intro a w hS
  refine wp_loop_ghost (fun k a w => ∃ i, m i = k ∧ I i a w) (m i0) ⟨i0, rfl, h0 a w hS⟩ ?_
  rintro k a w ⟨i, rfl, hi⟩
  refine wp_mono (h i a w hi) ?_
  intro e a w hq
  cases e <;> first | exact hq | skip
  obtain ⟨j, hj, hI⟩ := hq
  exact ⟨m j, hj, j, rfl, hI⟩
theorem nnext {ι : Type} {S : Act → World → Prop} {I : ι → Act → World → Prop} {m : ι → Nat} {i : ι} (j : ι) (hm : m j < m i) (h : ∀ a w, S a w → I j a w) : TrN (Exit.then (fun a w => ∃ j, m j < m i ∧ I j a w) Q) .normal S := fun a w hS => ⟨j, hm, h a w hS⟩
end
end Go.Sx
