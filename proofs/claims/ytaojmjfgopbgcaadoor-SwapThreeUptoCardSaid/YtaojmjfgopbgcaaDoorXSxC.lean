/- OWN WORK: a part of the proof of a law of the seat YtaojmjfgopbgcaaDoor: the rules by which the code is walked. -/
import Derived.Test.YtaojmjfgopbgcaaDoorXSxB
set_option linter.unusedVariables false
set_option linter.unusedSimpArgs false
namespace Go.Sx
open Go Go.RowKit

inductive At {α : Type} (x : α) : Nat → List α → Prop
  | z {l} : At x 0 (x :: l)
  | s {i y l} : At x i l → At x (i + 1) (y :: l)
theorem At.get {α : Type} {x : α} : ∀ {i : Nat} {l : List α}, At x i l → l[i]? = some x
  | _, _, .z => rfl
  | _, _, .s h => by simpa using h.get
inductive SetAt {α : Type} (v : α) : Nat → List α → List α → Prop
  | z {x l} : SetAt v 0 (x :: l) (v :: l)
  | s {i x l l'} : SetAt v i l l' → SetAt v (i + 1) (x :: l) (x :: l')
theorem SetAt.eq {α : Type} {v : α} : ∀ {i : Nat} {l l' : List α}, SetAt v i l l' → l' = l.set i v ∧ i < l.length
  | _, _, _, .z => ⟨rfl, by simp⟩
  | _, _, _, .s h => by obtain ⟨rfl, h2⟩ := h.eq; exact ⟨rfl, by simpa using h2⟩
/-- a stretch of k elements from o on -/
inductive Cut {α : Type} : Nat → Nat → List α → List α → Prop
  | d {l} : Cut 0 0 l []
  | t {k x l r} : Cut 0 k l r → Cut 0 (k + 1) (x :: l) (x :: r)
  | s {o k x l r} : Cut o k l r → Cut (o + 1) k (x :: l) r
theorem Cut.eq {α : Type} : ∀ {o k : Nat} {l r : List α}, Cut o k l r → r = (l.drop o).take k ∧ o + k ≤ l.length
  | _, _, _, _, .d => by simp
  | _, _, _, _, .t h => by obtain ⟨h1, h2⟩ := h.eq; simp at h1 h2 ⊢; exact ⟨h1, h2⟩
  | _, _, _, _, .s h => by obtain ⟨h1, h2⟩ := h.eq; simp at h1 h2 ⊢; exact ⟨h1, by omega⟩
/-- a stretch laid from o on -/
inductive Put {α : Type} : Nat → List α → List α → List α → Prop
  | d {l} : Put 0 [] l l
  | t {v vs x l r} : Put 0 vs l r → Put 0 (v :: vs) (x :: l) (v :: r)
  | s {o vs x l r} : Put o vs l r → Put (o + 1) vs (x :: l) (x :: r)
theorem Put.eq {α : Type} : ∀ {o : Nat} {vs l r : List α}, Put o vs l r → r = l.take o ++ vs ++ l.drop (o + vs.length) ∧ o + vs.length ≤ l.length
  | _, _, _, _, .d => by simp
  | _, _, _, _, .t h => by
    obtain ⟨h1, h2⟩ := h.eq
    simp only [Nat.zero_add, List.take_zero, List.nil_append] at h1 h2
    simp [h1]; omega
  | _, _, _, _, .s h => by
    obtain ⟨h1, h2⟩ := h.eq
    refine ⟨?_, by simp; omega⟩
    rw [h1]
    simp [Nat.add_right_comm]

section
variable {P : Program} {M0 F0 : Nat → Prop} {w0 : World} {n : Nat} {σ : List (Nat × Value)} {Ξ : List Xsn} {Γ : List Asn} {d : Nat} {ty : TypeId} {pos : String} {af : Array Edge}

/-- an operation that leaves the world alone, and yields v in every world that meets T -/
def Pu (P : Program) (n : Nat) (σ : List (Nat × Value)) (T : World → Prop) (o : Oper) (v : Value) : Prop := ∀ a, Slots n σ a → ∀ w, T w → (execOp a.eval o).run P w = .ok (.value v) w
def Any : World → Prop := fun _ => True
/-- these cells hold these values -/
def Is (b o : Nat) (vs : List Value) (w : World) : Prop := ∀ j v, vs[j]? = some v → w.cell? ⟨b, o + j, none⟩ = some v
theorem op {o : Op} {v : Value} (h : Pu P n σ Any ⟨some d, o, ty, pos, af, none⟩ v) (hd : Nat.blt d n = true) : OpR P ⟨some d, o, ty, pos, af, none⟩ (St M0 F0 w0 n σ Ξ Γ) (St M0 F0 w0 n ((d, v) :: σ) Ξ Γ) :=
  OpR.of_run rfl fun a w ⟨hs, hh⟩ => ⟨v, w, h a hs w trivial, hs.put hd, hh⟩
theorem opT {o : Op} {v : Value} {T : World → Prop} (h : Pu P n σ T ⟨some d, o, ty, pos, af, none⟩ v) (hT : ∀ Fs w, Hp M0 F0 w0 Ξ Γ Fs w → T w) (hd : Nat.blt d n = true) : OpR P ⟨some d, o, ty, pos, af, none⟩ (St M0 F0 w0 n σ Ξ Γ) (St M0 F0 w0 n ((d, v) :: σ) Ξ Γ) :=
  OpR.of_run rfl fun a w ⟨hs, Fs, hh⟩ => ⟨v, w, h a hs w (hT Fs w hh), hs.put hd, Fs, hh⟩
theorem o_pure {op : Op} {v : Value} (hd : Nat.blt d n = true) (h : ∀ a, Slots n σ a → ∀ w, (∃ Fs, Hp M0 F0 w0 Ξ Γ Fs w) → (execOp a.eval ⟨some d, op, ty, pos, af, none⟩).run P w = .ok (.value v) w) :
    OpR P ⟨some d, op, ty, pos, af, none⟩ (St M0 F0 w0 n σ Ξ Γ) (St M0 F0 w0 n ((d, v) :: σ) Ξ Γ) :=
  OpR.of_run rfl fun a w ⟨hs, hh⟩ => ⟨v, w, h a hs w hh, hs.put hd, hh⟩

theorem p_move {T : World → Prop} {x : Operand} {v : Value} (hx : ev σ x = some v) : Pu P n σ T ⟨some d, .move x, ty, pos, af, none⟩ (v) :=
  fun a hs w _ => by simp [execOp, hs.ev hx]
theorem p_asg {T : World → Prop} {x : Operand} {v : Value} (hx : ev σ x = some v) : Pu P n σ T ⟨some d, .assign x, ty, pos, af, none⟩ (v) :=
  fun a hs w _ => by simp [execOp, hs.ev hx]
theorem p_pickt {T : World → Prop} {c x y : Operand} {v : Value} (hc : ev σ c = some (.bool true)) (hx : ev σ x = some v) : Pu P n σ T ⟨some d, .pick c x y, ty, pos, af, none⟩ (v) :=
  fun a hs w _ => by simp [execOp, hs.ev hc, hs.ev hx, asBool]
theorem p_pickf {T : World → Prop} {c x y : Operand} {v : Value} (hc : ev σ c = some (.bool false)) (hx : ev σ y = some v) : Pu P n σ T ⟨some d, .pick c x y, ty, pos, af, none⟩ (v) :=
  fun a hs w _ => by simp [execOp, hs.ev hc, hs.ev hx, asBool]
theorem p_ext {T : World → Prop} {x : Operand} {i : Nat} {vs : List Value} {v : Value} (hx : ev σ x = some (.tuple vs.toArray)) (hi : At v i vs) : Pu P n σ T ⟨some d, .extract x i, ty, pos, af, none⟩ (v) :=
  fun a hs w _ => by simp [execOp, hs.ev hx, Instr.extract, hi.get]

/-! integers -/
theorem p_add {T : World → Prop} {x y : Operand} {t t' : TypeId} {k b : Int} (hx : ev σ x = some (.int .i64 k)) (hy : ev σ y = some (.int .i64 b)) (hb : -9223372036854775808 ≤ k + b ∧ k + b < 9223372036854775808) : Pu P n σ T ⟨some d, .binOp .add t x y t', ty, pos, af, none⟩ (.int .i64 (k + b)) :=
  fun a hs w _ => by
    have := IntWalk.i64_in (k + b) (by omega)
    simp [execOp, hs.ev hx, hs.ev hy, eqGuard_add, binOp_add, Op.intArith, this]
theorem p_sub {T : World → Prop} {x y : Operand} {t t' : TypeId} {k b : Int} (hx : ev σ x = some (.int .i64 k)) (hy : ev σ y = some (.int .i64 b)) (hb : -9223372036854775808 ≤ k - b ∧ k - b < 9223372036854775808) : Pu P n σ T ⟨some d, .binOp .sub t x y t', ty, pos, af, none⟩ (.int .i64 (k - b)) :=
  fun a hs w _ => by
    have := IntWalk.i64_in (k - b) (by omega)
    simp [execOp, hs.ev hx, hs.ev hy, eqGuard_sub, binOp_sub, Op.intArith, this]
def icmp : BinOp → Int → Int → Option Bool
  | .eql, a, b => some (decide (a = b))
  | .neq, a, b => some (!decide (a = b))
  | .lss, a, b => some (decide (a < b))
  | .leq, a, b => some (decide (a ≤ b))
  | .gtr, a, b => some (decide (b < a))
  | .geq, a, b => some (decide (b ≤ a))
  | _, _, _ => none
theorem p_icmp {T : World → Prop} {op : BinOp} {x y : Operand} {t t' : TypeId} {kd : IntKind} {k b : Int} {r : Bool} (hx : ev σ x = some (.int kd k)) (hy : ev σ y = some (.int kd b)) (hr : icmp op k b = some r) : Pu P n σ T ⟨some d, .binOp op t x y t', ty, pos, af, none⟩ (.bool r) :=
  fun a hs w _ => by
    cases op <;> simp only [icmp, Option.some.injEq, reduceCtorEq] at hr <;> subst hr <;>
      simp [execOp, hs.ev hx, hs.ev hy, eqGuard_at_int, binOp_eql, binOp_neq, binOp_lss, binOp_leq, binOp_gtr, binOp_geq, bne, BEq.beq, eqGuard_lss, eqGuard_leq, eqGuard_gtr, eqGuard_geq]
theorem p_not {T : World → Prop} {x : Operand} {t : TypeId} {b : Bool} (hx : ev σ x = some (.bool b)) : Pu P n σ T ⟨some d, .unOp .not t x, ty, pos, af, none⟩ (.bool (!b)) :=
  fun a hs w _ => by simp [execOp, hs.ev hx, Op.unary]
/-! strings -/
theorem str_inj {s u : ByteArray} (h : s.toList = u.toList) : s = u := by
  rw [ByteArray.toList_eq, ByteArray.toList_eq] at h
  have : s.data = u.data := Array.ext' h
  cases s; cases u; simp_all
theorem str_beq (s u : ByteArray) : (s.toList == u.toList) = decide (s = u) := by
  by_cases h : s = u
  · subst h; simp
  · have h' : ¬ s.toList = u.toList := fun e => h (str_inj e)
    simp [h, h']
theorem p_seq {T : World → Prop} {x y : Operand} {t t' : TypeId} {s u : ByteArray} (hx : ev σ x = some (.string s)) (hy : ev σ y = some (.string u)) : Pu P n σ T ⟨some d, .binOp .eql t x y t', ty, pos, af, none⟩ (.bool (decide (s = u))) :=
  fun a hs w _ => by
    simp [execOp, hs.ev hx, hs.ev hy, eqGuard_at_string, binOp, Op.stringOp, str_beq]
theorem p_sne {T : World → Prop} {x y : Operand} {t t' : TypeId} {s u : ByteArray} (hx : ev σ x = some (.string s)) (hy : ev σ y = some (.string u)) : Pu P n σ T ⟨some d, .binOp .neq t x y t', ty, pos, af, none⟩ (.bool (!decide (s = u))) :=
  fun a hs w _ => by
    simp [execOp, hs.ev hx, hs.ev hy, eqGuard_at_string, binOp, Op.stringOp, str_beq]
theorem p_lens {T : World → Prop} {x : Operand} {t : TypeId} {s : ByteArray} (hx : ev σ x = some (.string s)) (ht : P.underlying t = some .string) : Pu P n σ T ⟨some d, .call ⟨.builtin .len, #[x], #[t]⟩, ty, pos, af, none⟩ (.int .i64 (s.size : Int)) :=
  fun a hs w _ => by simp [execOp, resolve, invoke, builtin, hs.ev hx, Builtin.len_, run_underlying ht, goInt]
theorem p_lenl {T : World → Prop} {x : Operand} {t e : TypeId} {A : Option Addr} {l c : Nat} (hx : ev σ x = some (.slice A l c)) (ht : P.underlying t = some (.slice e)) : Pu P n σ T ⟨some d, .call ⟨.builtin .len, #[x], #[t]⟩, ty, pos, af, none⟩ (.int .i64 (l : Int)) :=
  fun a hs w _ => by simp [execOp, resolve, invoke, builtin, hs.ev hx, Builtin.len_, run_underlying ht, goInt]

/-! variables in memory -/
theorem o_box {x : Operand} {t : TypeId} {v : Value} {cs : List Value} (hx : ev σ x = some v) (hc : v.cells = cs.toArray) (hd : Nat.blt d n = true) :
    OpR P ⟨some d, .box t x, ty, pos, af, none⟩ (St M0 F0 w0 n σ Ξ Γ) (fun a w => ∃ b, St M0 F0 w0 n ((d, .pointer (some ⟨b, 0, none⟩)) :: σ) (box b t cs :: Ξ) Γ a w) :=
  OpR.of_run rfl fun a w ⟨hs, Fs, hh⟩ => by
    obtain ⟨Fs', hh'⟩ := hh.alloc t cs
    exact ⟨_, w.alloc (.cells cs.toArray t), by simp [execOp, hs.ev hx, Instr.box, newVar, newRow, hc], w.heap.size, hs.put hd, Fs', hh'⟩
theorem o_alloc {t : TypeId} {z : Value} {cs : List Value} (hz : ∀ w, (zeroValue t).run P w = .ok z w) (hc : z.cells = cs.toArray) (hd : Nat.blt d n = true) :
    OpR P ⟨some d, .alloc t, ty, pos, af, none⟩ (St M0 F0 w0 n σ Ξ Γ) (fun a w => ∃ b, St M0 F0 w0 n ((d, .pointer (some ⟨b, 0, none⟩)) :: σ) (box b t cs :: Ξ) Γ a w) :=
  OpR.of_run rfl fun a w ⟨hs, Fs, hh⟩ => by
    obtain ⟨Fs', hh'⟩ := hh.alloc t cs
    exact ⟨_, w.alloc (.cells cs.toArray t), by simp [execOp, Instr.alloc, hz, newVar, newRow, hc], w.heap.size, hs.put hd, Fs', hh'⟩
/-- the place of a field -/
def FA (P : Program) (s : TypeId) (f k : Nat) : Prop := ∀ b o w, (Instr.fieldAt s (.pointer (some ⟨b, o, none⟩)) f).run P w = .ok (.pointer (some ⟨b, o + k, none⟩)) w
theorem p_fa {T : World → Prop} {x : Operand} {s : TypeId} {f k b o : Nat} (hf : FA P s f k) (hx : ev σ x = some (.pointer (some ⟨b, o, none⟩))) : Pu P n σ T ⟨some d, .fieldAddr s x f, ty, pos, af, none⟩ (.pointer (some ⟨b, o + k, none⟩)) :=
  fun a hs w _ => by simp [execOp, hs.ev hx, hf b o w]
theorem cell_of {w : World} {b : Nat} {t : TypeId} {cs : List Value} (h : w.heap[b]? = some (.cells cs.toArray t (0, 0))) (j : Nat) : w.cell? ⟨b, j, none⟩ = cs[j]? := by
  simp [World.cell?, h]
/-- one cell is read -/
theorem p_ld {x : Operand} {t : TypeId} {b o : Nat} {v : Value} (hag : ∀ w, (isAgg t).run P w = .ok false w) (hx : ev σ x = some (.pointer (some ⟨b, o, none⟩))) : Pu P n σ (Is b o [v]) ⟨some d, .load t x, ty, pos, af, none⟩ v :=
  fun a hs w hT => by
    have hc := hT 0 v rfl
    simp only [Nat.add_zero] at hc
    simp [execOp, hs.ev hx, Instr.loadAt, Instr.sureAddr, loadVar, hag, hc]
/-- a whole struct is read -/
theorem p_lda {x : Operand} {t : TypeId} {b o k : Nat} {r : List Value} (hag : ∀ w, (isAgg t).run P w = .ok true w) (hsz : ∀ w, (sizeOf t).run P w = .ok k w) (hx : ev σ x = some (.pointer (some ⟨b, o, none⟩))) (hk : r.length = k) :
    Pu P n σ (Is b o r) ⟨some d, .load t x, ty, pos, af, none⟩ (.agg r.toArray) :=
  fun a hs w hT => by
    have hr := run_loadCells_list (P := P) w ⟨b, o, none⟩ r (fun j v hj => by rw [Addr.add_lit]; exact hT j v hj)
    rw [hk] at hr
    simp [execOp, hs.ev hx, Instr.loadAt, Instr.sureAddr, loadVar, hag, hsz, hr]
/-- what a variable's cells hold -/
theorem isBox {i b o k : Nat} {bt : TypeId} {cs r : List Value} (hi : At (box b bt cs) i Ξ) (hv : Cut o k cs r) : ∀ Fs w, Hp M0 F0 w0 Ξ Γ Fs w → Is b o r w := by
  intro Fs w hh j v hj
  obtain ⟨rfl, hle⟩ := hv.eq
  have hjk : j < k := by have := (List.getElem?_eq_some_iff.1 hj).1; simp at this; omega
  rw [cell_of (hh.cell hi.get)]
  rw [List.getElem?_take_of_lt hjk, List.getElem?_drop] at hj
  exact hj
theorem Cut.length {α : Type} {o k : Nat} {l r : List α} (h : Cut o k l r) : r.length = k := by
  obtain ⟨rfl, h2⟩ := h.eq; simp; omega
theorem Cut.all {α : Type} (l : List α) : Cut 0 l.length l l := by
  induction l with
  | nil => exact .d
  | cons x l ih => exact .t ih
theorem o_ld {x : Operand} {t : TypeId} {i b o : Nat} {bt : TypeId} {cs : List Value} {v : Value} (hag : ∀ w, (isAgg t).run P w = .ok false w) (hx : ev σ x = some (.pointer (some ⟨b, o, none⟩))) (hi : At (box b bt cs) i Ξ) (hv : At v o cs) (hd : Nat.blt d n = true) :
    OpR P ⟨some d, .load t x, ty, pos, af, none⟩ (St M0 F0 w0 n σ Ξ Γ) (St M0 F0 w0 n ((d, v) :: σ) Ξ Γ) :=
  opT (p_ld hag hx) (fun Fs w hh j u hj => by
    have hj0 : j = 0 := by have := (List.getElem?_eq_some_iff.1 hj).1; simp at this; omega
    subst hj0
    rw [cell_of (hh.cell hi.get), Nat.add_zero, hv.get]; simpa using hj) hd
theorem o_lda {x : Operand} {t : TypeId} {i b o k : Nat} {bt : TypeId} {cs r : List Value} (hag : ∀ w, (isAgg t).run P w = .ok true w) (hsz : ∀ w, (sizeOf t).run P w = .ok k w) (hx : ev σ x = some (.pointer (some ⟨b, o, none⟩))) (hi : At (box b bt cs) i Ξ) (hv : Cut o k cs r) (hd : Nat.blt d n = true) :
    OpR P ⟨some d, .load t x, ty, pos, af, none⟩ (St M0 F0 w0 n σ Ξ Γ) (St M0 F0 w0 n ((d, .agg r.toArray) :: σ) Ξ Γ) :=
  opT (p_lda hag hsz hx hv.length) (isBox hi hv) hd
/-- the whole of a variable -/
theorem o_ldw {x : Operand} {t : TypeId} {i b k : Nat} {bt : TypeId} {cs : List Value} (hag : ∀ w, (isAgg t).run P w = .ok true w) (hsz : ∀ w, (sizeOf t).run P w = .ok k w) (hx : ev σ x = some (.pointer (some ⟨b, 0, none⟩))) (hi : At (box b bt cs) i Ξ) (hk : cs.length = k) (hd : Nat.blt d n = true) :
    OpR P ⟨some d, .load t x, ty, pos, af, none⟩ (St M0 F0 w0 n σ Ξ Γ) (St M0 F0 w0 n ((d, .agg cs.toArray) :: σ) Ξ Γ) :=
  o_lda hag hsz hx hi (hk ▸ Cut.all cs) hd
/-- a value is laid -/
theorem o_st {dst : Option Nat} {x y : Operand} {t : TypeId} {i b o k : Nat} {bt : TypeId} {cs vs cs' : List Value} {v : Value} {Ξ' : List Xsn} (hdst : dst = none) (hsz : ∀ w, (sizeOf t).run P w = .ok k w) (hx : ev σ x = some (.pointer (some ⟨b, o, none⟩))) (hy : ev σ y = some v) (hvc : v.cells = vs.toArray) (hk : vs.length = k)
    (h1 : vs.all Value.oneCell' = true) (hi : At (box b bt cs) i Ξ) (hp : Put o vs cs cs') (hs' : SetAt (box b bt cs') i Ξ Ξ') :
    OpR P ⟨dst, .store t x y, ty, pos, af, none⟩ (St M0 F0 w0 n σ Ξ Γ) (St M0 F0 w0 n σ Ξ' Γ) := by
  subst hdst
  subst hk
  refine OpR.of_skip rfl fun a w ⟨hs, Fs, hh⟩ => ?_
  obtain ⟨rfl, hle⟩ := hp.eq
  obtain ⟨rfl, _⟩ := hs'.eq
  have hst := run_storeCells_at P b o bt vs 0 cs.toArray w (hh.cell hi.get) (by simpa using hle) (fun v hv => List.all_eq_true.1 h1 v hv)
  refine ⟨_, ?_, hs, Fs, hh.setBox hi.get _⟩
  simp only [execOp, hs.ev hx, hs.ev hy, Instr.storeAt, Instr.sureAddr, storeVar, Sem.run_bind, Sem.run_pure, Result.andThen_ok, hsz, hvc, List.size_toArray, ne_eq, not_true_eq_false, if_false]
  simp only [Nat.add_zero] at hst
  simp [hst]

/-! a struct or an array is built -/
inductive Fill (pl : List (Nat × Nat)) : List (Nat × Value) → List Value → List Value → Prop
  | d {cs} : Fill pl [] cs cs
  | t {i o k v vs rest cs cs1 cs2} : At (o, k) i pl → v.cells = vs.toArray → vs.length = k → Put o vs cs cs1 → Fill pl rest cs1 cs2 → Fill pl ((i, v) :: rest) cs cs2
theorem foldl_put : ∀ (vs : List Value) (j o : Nat) (cs : Array Value), o + j + vs.length ≤ cs.size →
    (vs.zipIdx j).foldl (fun cs (x : Value × Nat) => cs.setIfInBounds (o + x.2) x.1) cs = (cs.toList.take (o + j) ++ vs ++ cs.toList.drop (o + j + vs.length)).toArray
  | [], j, o, cs, _ => by simp
  | v :: vs, j, o, cs, h => by
    simp only [List.length_cons] at h
    simp only [List.zipIdx_cons, List.foldl_cons]
    rw [foldl_put vs (j + 1) o _ (by simp; omega)]
    congr 1
    have e := list_seg_step cs.toList (o + j) v vs (by simp; omega)
    simpa [Array.toList_setIfInBounds, Nat.add_assoc] using e
theorem Fill.run {pl : List (Nat × Nat)} {ps : List (Nat × Value)} {cs cs' : List Value} (h : Fill pl ps cs cs') : Instr.fill (pl[·]?) cs.toArray ps = some cs'.toArray := by
  induction h with
  | d => rfl
  | @t i o k v vs rest cs cs1 cs2 hi hv hk hp hr ih =>
    obtain ⟨rfl, hle⟩ := hp.eq
    subst hk
    unfold Instr.fill
    simp only [hi.get, hv, List.size_toArray, ne_eq, not_true_eq_false, false_or]
    have hno : ¬ (o + vs.length > cs.length) := by omega
    simp only [hno, if_false]
    rw [← ih]
    have h1 := foldl_put vs 0 o cs.toArray (by simpa using hle)
    have h2 : vs.toArray.zipIdx = (vs.zipIdx).toArray := by
      apply Array.ext'
      simp
    rw [h2]
    have h3 := congrArg (fun z => Instr.fill (pl[·]?) z rest) h1
    simpa using h3
end
end Go.Sx
