/- OWN WORK: a part of the proof of a law of the seat YtaojmjfgopbgcaaDoor: what the functions compute. -/
import Derived.Test.YtaojmjfgopbgcaaDoorXTy
import Derived.Test.YtaojmjfgopbgcaaDoorXSxJ
import Derived.Lib.IndexAny
import Derived.Lib.SlTrimSet
set_option linter.unusedVariables false
set_option linter.unusedSimpArgs false
namespace Go.Sx
open Go

def e0 : ByteArray := ⟨#[]⟩
def nameB (b : UInt8) : Bool := (decide (97 ≤ b.toNat) && decide (b.toNat ≤ 122)) || (decide (48 ≤ b.toNat) && decide (b.toNat ≤ 57)) || decide (b.toNat = 46) || decide (b.toNat = 45) || decide (b.toNat = 95) || decide (b.toNat = 47)
def nameOk (s : ByteArray) : Bool := decide (1 ≤ (s.size : Int)) && decide ((s.size : Int) ≤ 24) && (ofB s).all nameB
def lineOk (s : ByteArray) : Bool := decide ((s.size : Int) ≤ 60) && !(ofB s).contains 10
def Prim.bare (p : Prim) : Bool := decide (p.pos = 0) && decide ((p.old.length : Int) = 0) && decide ((p.new.length : Int) = 0)
def Prim.right (p : Prim) : Bool :=
  nameOk p.name && (if p.kind = 0 then decide (p.to = ⟨#[]⟩) && decide (0 ≤ p.pos) && decide (p.pos ≤ 1048576) && p.old.all lineOk && p.new.all lineOk && !decide (p.old = p.new)
    else if p.kind = 3 then p.bare && nameOk p.to && !decide (p.to = p.name) else p.bare && decide (p.to = ⟨#[]⟩) && (decide (p.kind = 1) || decide (p.kind = 2)))
def Prim.zero : Prim := ⟨0, ⟨#[]⟩, ⟨#[]⟩, 0, [], []⟩
def Prim.flip (p : Prim) : Prim := if p.kind = 0 then { p with old := p.new, new := p.old } else if p.kind = 1 ∨ p.kind = 2 then { p with kind := 3 - p.kind } else if p.kind = 3 then { p with name := p.to, to := p.name } else p
def Prim.names (p : Prim) : List ByteArray := if p.kind = 3 then [p.name, p.to] else [p.name]
def Prim.meets (p q : Prim) : Bool := p.names.any fun a => q.names.any fun b => decide (b = a)
structure Prim.fit (p : Prim) : Prop where
  o : p.old.length ≤ 2000000
  n : p.new.length ≤ 2000000
  a : p.name.size ≤ 2000000
  b : p.to.size ≤ 2000000
  os : ∀ s ∈ p.old, s.size ≤ 2000000
  ns : ∀ s ∈ p.new, s.size ≤ 2000000
def hunks (p q : Prim) : Prim × Prim × Bool :=
  if p.pos + p.new.length < q.pos then ({ q with pos := q.pos - ((p.new.length : Int) - p.old.length) }, p, true)
  else if q.pos + q.old.length < p.pos then (q, { p with pos := p.pos + ((q.new.length : Int) - q.old.length) }, true)
  else (p, q, false)
def swapped (p q : Prim) : Prim × Prim × Bool :=
  if p.kind = 0 ∧ q.kind = 0 then if p.name = q.name then hunks p q else (q, p, true)
  else if p.kind = 0 ∧ q.kind = 3 then if p.name = q.name then (q, { p with name := q.to }, true) else (q, p, !decide (p.name = q.to))
  else if p.kind = 3 ∧ q.kind = 0 then if p.to = q.name then ({ q with name := p.name }, p, true) else (q, p, !decide (p.name = q.name))
  else (q, p, !p.meets q)
def swap (p q : Prim) : Prim × Prim × Bool :=
  if p.right && q.right && (swapped p q).2.2 && (swapped p q).1.right && (swapped p q).2.1.right then ((swapped p q).1, (swapped p q).2.1, true) else (.zero, .zero, false)
def refTwo (p q : Prim) : Prim × Prim × Bool :=
  if p.kind = 0 ∧ q.kind = 0 ∧ p.name = q.name then hunks p q
  else if p.kind = 0 ∧ q.kind = 3 ∧ p.name = q.name then (q, { p with name := q.to }, true)
  else if p.kind = 3 ∧ q.kind = 0 ∧ p.to = q.name then ({ q with name := p.name }, p, true)
  else if p.kind = 0 ∧ q.kind = 0 then (q, p, true) else (q, p, !p.meets q)
def refSwap (p q : Prim) : Prim × Prim × Bool :=
  if p.right && q.right && (refTwo p q).2.2 && (refTwo p q).1.right && (refTwo p q).2.1.right then ((refTwo p q).1, (refTwo p q).2.1, true) else (.zero, .zero, false)
def refRight (p : Prim) : Bool :=
  if (!nameOk p.name || decide (p.kind < 0) || decide (3 < p.kind)) = true then false
  else if p.kind = 0 then (if (!decide (p.to = ⟨#[]⟩) || decide (p.pos < 0) || decide (1048576 < p.pos)) = true then false else p.old.all lineOk && p.new.all lineOk && !decide (p.old = p.new))
  else if (!decide (p.pos = 0) || decide (0 < (p.old.length : Int)) || decide (0 < (p.new.length : Int))) = true then false
  else if p.kind = 3 then nameOk p.to && !decide (p.to = p.name) else decide (p.to = ⟨#[]⟩)
theorem refRight_eq (p : Prim) : refRight p = p.right := by
  unfold refRight Prim.right Prim.bare
  by_cases hn : nameOk p.name = true
  · by_cases h0 : p.kind = 0
    · have e1 : decide (p.pos < 0) = !decide (0 ≤ p.pos) := by
        rw [Bool.eq_iff_iff]; simp
      have e2 : decide (1048576 < p.pos) = !decide (p.pos ≤ 1048576) := by
        rw [Bool.eq_iff_iff]; simp
      rw [e1, e2, if_pos h0, if_pos h0]
      simp only [hn, h0]
      cases decide (p.to = ⟨#[]⟩) <;> cases decide (0 ≤ p.pos) <;> cases decide (p.pos ≤ 1048576) <;> simp
    · by_cases hb : p.pos = 0 ∧ p.old.length = 0 ∧ p.new.length = 0
      · obtain ⟨b1, b2, b3⟩ := hb
        by_cases h3 : p.kind = 3
        · simp [hn, h3, b1, b2, b3]
        · by_cases h4 : p.kind = 1
          · simp [hn, h4, b1, b2, b3]
          · by_cases h5 : p.kind = 2
            · simp [hn, h5, b1, b2, b3]
            · have : p.kind < 0 ∨ 3 < p.kind := by omega
              simp [hn, h0, h3, h4, h5, this]
      · have hb' : (!decide (p.pos = 0) || decide (0 < (p.old.length : Int)) || decide (0 < (p.new.length : Int))) = true := by
          simp; omega
        have hb2 : (decide (p.pos = 0) && decide ((p.old.length : Int) = 0) && decide ((p.new.length : Int) = 0)) = false := by
          rw [Bool.eq_false_iff]; intro h; simp only [Bool.and_eq_true, decide_eq_true_eq] at h; omega
        rw [if_neg h0, if_pos hb', if_neg h0, hb2]
        simp
  · simp [hn]
def refNames (p : Prim) : List ByteArray := if p.kind = 3 then (if Op.bytesLess p.name.toList p.to.toList = true then [p.name, p.to] else [p.to, p.name]) else [p.name]
theorem refNames_perm (p : Prim) : (refNames p).Perm p.names := by
  unfold refNames Prim.names
  split
  · split
    · exact List.Perm.refl _
    · exact List.Perm.swap _ _ _
  · exact List.Perm.refl _
theorem any_perm {α : Type} {f : α → Bool} {l m : List α} (h : l.Perm m) : l.any f = m.any f := by
  rw [Bool.eq_iff_iff, List.any_eq_true, List.any_eq_true]
  exact ⟨fun ⟨x, h1, h2⟩ => ⟨x, h.mem_iff.1 h1, h2⟩, fun ⟨x, h1, h2⟩ => ⟨x, h.mem_iff.2 h1, h2⟩⟩
/-- a pair of prims, and a bool, as they are told -/
abbrev Two (r : Prim × Prim × Bool) := { x : (Prim × Prim × Bool) × (Rp.Lay Prim × Rp.Lay Prim) // x.1 = r }
def Two.v {r : Prim × Prim × Bool} (x : Two r) : Value := .tuple #[sv x.1.1.1 x.1.2.1, sv x.1.1.2.1 x.1.2.2, .bool x.1.1.2.2]
def Two.g {r : Prim × Prim × Bool} (x : Two r) : List Asn := Rp.asn x.1.1.1 x.1.2.1 ++ Rp.asn x.1.1.2.1 x.1.2.2
def sizes (l : List ByteArray) : Nat := (l.map ByteArray.size).sum
def Prim.many (p : Prim) : Nat := p.name.size + p.to.size + p.old.length + p.new.length + sizes p.old + sizes p.new
def many (l : List Prim) : Nat := l.length + (l.map Prim.many).sum

theorem right_pos {p : Prim} (h : p.right = true) : 0 ≤ p.pos ∧ p.pos ≤ 1048576 := by
  unfold Prim.right Prim.bare at h
  split at h
  · simp only [Bool.and_eq_true, decide_eq_true_eq] at h; omega
  · split at h <;> · simp only [Bool.and_eq_true, decide_eq_true_eq] at h; omega
theorem swapped_fit {p q : Prim} (hp : p.fit) (hq : q.fit) : (swapped p q).1.fit ∧ (swapped p q).2.1.fit := by
  obtain ⟨p1, p2, p3, p4, p5, p6⟩ := hp
  obtain ⟨q1, q2, q3, q4, q5, q6⟩ := hq
  unfold swapped hunks
  refine ⟨?_, ?_⟩ <;> (repeat' split) <;> constructor <;> assumption
theorem dcomm (a b : ByteArray) : decide (a = b) = decide (b = a) := by
  by_cases h : a = b
  · simp [h]
  · simp [h, show ¬ b = a from fun e => h e.symm]
theorem swap_eq (p q : Prim) : refSwap p q = swap p q := by
  have h : refTwo p q = swapped p q := by
    unfold refTwo swapped
    by_cases hp : p.kind = 0
    · by_cases hq : q.kind = 0
      · by_cases hn : p.name = q.name <;> simp [hp, hq, hn]
      · by_cases hq3 : q.kind = 3
        · by_cases hn : p.name = q.name
          · simp [hp, hq3, hn]
          · have h1 : decide (q.name = p.name) = false := by simp [show ¬ q.name = p.name from fun e => hn e.symm]
            have h2 : p.meets q = decide (p.name = q.to) := by
              unfold Prim.meets Prim.names
              rw [if_neg (by omega), if_pos hq3, dcomm p.name q.to]
              simp only [List.any_cons, List.any_nil, h1, Bool.false_or, Bool.or_false]
            rw [if_neg (by omega), if_neg (by simp [hn]), if_neg (by omega), if_neg (by omega), if_neg (by omega), if_pos ⟨hp, hq3⟩, if_neg hn, h2]
        · rw [if_neg (by omega), if_neg (by omega), if_neg (by omega), if_neg (by omega), if_neg (by omega), if_neg (by omega), if_neg (by omega)]
    · by_cases hp3 : p.kind = 3
      · by_cases hq : q.kind = 0
        · by_cases hn : p.to = q.name
          · simp [hp3, hq, hn]
          · have h1 : decide (q.name = p.to) = false := by simp [show ¬ q.name = p.to from fun e => hn e.symm]
            have h2 : p.meets q = decide (p.name = q.name) := by
              unfold Prim.meets Prim.names
              rw [if_pos hp3, if_neg (by omega), dcomm p.name q.name]
              simp only [List.any_cons, List.any_nil, h1, Bool.false_or, Bool.or_false]
            rw [if_neg (by omega), if_neg (by omega), if_neg (by simp [hn]), if_neg (by omega), if_neg (by omega), if_neg (by omega), if_pos ⟨hp3, hq⟩, if_neg hn, h2]
        · rw [if_neg (by omega), if_neg (by omega), if_neg (by omega), if_neg (by omega), if_neg (by omega), if_neg (by omega), if_neg (by omega)]
      · rw [if_neg (by omega), if_neg (by omega), if_neg (by omega), if_neg (by omega), if_neg (by omega), if_neg (by omega), if_neg (by omega)]
  unfold refSwap swap
  rw [h]
theorem dropWhile_nil {f : UInt8 → Bool} : ∀ (l : List UInt8), l.dropWhile f = [] ↔ ∀ b ∈ l, f b = true
  | [] => by simp
  | x :: l => by
    rw [List.dropWhile_cons]
    have ih := dropWhile_nil (f := f) l
    by_cases h : f x = true
    · rw [if_pos h, ih]; simp [h]
    · rw [if_neg h]; simp [h]
theorem meets_ref (p q : Prim) : ((refNames p).any fun s => (refNames q).any fun t => decide (s = t)) = p.meets q := by
  unfold Prim.meets
  rw [any_perm (refNames_perm p)]
  congr 1
  funext s
  rw [any_perm (refNames_perm q)]
  congr 1
  funext t
  exact dcomm s t
theorem trimS_nil (l cs : List UInt8) : Lib.trimS l cs = [] ↔ ∀ b ∈ l, cs.contains b = true := by
  unfold Lib.trimS Lib.trimLeftS Lib.trimRightS
  constructor
  · intro h b hb
    have h1 : ∀ x ∈ (l.reverse.dropWhile (cs.contains ·)).reverse, cs.contains x = true := by
      have := (dropWhile_nil _).1 h
      exact this
    have h2 : l.reverse = l.reverse.takeWhile (cs.contains ·) ++ l.reverse.dropWhile (cs.contains ·) := (List.takeWhile_append_dropWhile).symm
    have hb' : b ∈ l.reverse := by simpa using hb
    rw [h2] at hb'
    rcases List.mem_append.1 hb' with h3 | h3
    · exact List.all_eq_true.1 (List.all_takeWhile (p := (cs.contains ·)) (l := l.reverse)) b h3
    · exact h1 b (by simpa using h3)
  · intro h
    rw [dropWhile_nil]
    intro x hx
    have : x ∈ l := by
      have := (List.dropWhile_sublist _).mem (by simpa using hx : x ∈ l.reverse.dropWhile (cs.contains ·))
      simpa using this
    exact h x this
end Go.Sx
