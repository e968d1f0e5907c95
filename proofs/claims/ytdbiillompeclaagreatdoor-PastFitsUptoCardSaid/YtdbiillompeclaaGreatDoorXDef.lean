/- OWN WORK: a part of the proof of a law of the seat YtdbiillompeclaaGreatDoor: what the functions compute. -/
import Derived.Test.YtdbiillompeclaaGreatDoorXTy
import Derived.Test.YtdbiillompeclaaGreatDoorXSx2
import Derived.Lib.IndexAny
import Derived.Lib.SlTrimSet
import Derived.Laws.Pointers
section
set_option linter.unusedVariables false
set_option linter.unusedSimpArgs false
namespace Go.Sx
open Go

def e0 : ByteArray := ⟨#[]⟩
def nameB (b : UInt8) : Bool := (decide (97 ≤ b.toNat) && decide (b.toNat ≤ 122)) || (decide (48 ≤ b.toNat) && decide (b.toNat ≤ 57)) || decide (b.toNat = 46) || decide (b.toNat = 45) || decide (b.toNat = 95) || decide (b.toNat = 47)
def nameOk (s : ByteArray) : Bool := decide (1 ≤ (s.size : Int)) && decide ((s.size : Int) ≤ 24) && (ofB s).all nameB
def lineOk (s : ByteArray) : Bool := decide ((s.size : Int) ≤ 60) && !(ofB s).contains 10
def Prim.bare (p : Prim) : Bool := decide (p.pos = 0) && decide ((p.old.length : Int) = 0) && decide ((p.new.length : Int) = 0)
def Prim.right (p : Prim) : Bool :=
  nameOk p.name && (if p.kind = 0 then decide (p.to = ⟨#[]⟩) && decide (0 ≤ p.pos) && decide (p.pos ≤ 1048576) && p.old.all lineOk && p.new.all lineOk && !decide (p.old = p.new)
    else if p.kind = 3 then p.bare && nameOk p.to && !decide (p.to = p.name) else p.bare && decide (p.to = ⟨#[]⟩) && (decide (p.kind = 1) || decide (p.kind = 2)))
def Prim.zero : Prim := ⟨0, ⟨#[]⟩, ⟨#[]⟩, 0, [], []⟩
def Prim.flip (p : Prim) : Prim := if p.kind = 0 then { p with old := p.new, new := p.old } else if p.kind = 1 ∨ p.kind = 2 then { p with kind := 3 - p.kind } else if p.kind = 3 then { p with name := p.to, to := p.name } else p
def Prim.names (p : Prim) : List ByteArray := if p.kind = 3 then [p.name, p.to] else [p.name]
def Prim.meets (p q : Prim) : Bool := p.names.any fun a => q.names.any fun b => decide (b = a)
structure Prim.fit (p : Prim) : Prop where
  o : p.old.length ≤ 2000000
  n : p.new.length ≤ 2000000
  a : p.name.size ≤ 2000000
  b : p.to.size ≤ 2000000
  os : ∀ s ∈ p.old, s.size ≤ 2000000
  ns : ∀ s ∈ p.new, s.size ≤ 2000000
def hunks (p q : Prim) : Prim × Prim × Bool :=
  if p.pos + p.new.length < q.pos then ({ q with pos := q.pos - ((p.new.length : Int) - p.old.length) }, p, true)
  else if q.pos + q.old.length < p.pos then (q, { p with pos := p.pos + ((q.new.length : Int) - q.old.length) }, true)
  else (p, q, false)
def swapped (p q : Prim) : Prim × Prim × Bool :=
  if p.kind = 0 ∧ q.kind = 0 then if p.name = q.name then hunks p q else (q, p, true)
  else if p.kind = 0 ∧ q.kind = 3 then if p.name = q.name then (q, { p with name := q.to }, true) else (q, p, !decide (p.name = q.to))
  else if p.kind = 3 ∧ q.kind = 0 then if p.to = q.name then ({ q with name := p.name }, p, true) else (q, p, !decide (p.name = q.name))
  else (q, p, !p.meets q)
def swap (p q : Prim) : Prim × Prim × Bool :=
  if p.right && q.right && (swapped p q).2.2 && (swapped p q).1.right && (swapped p q).2.1.right then ((swapped p q).1, (swapped p q).2.1, true) else (.zero, .zero, false)
def refTwo (p q : Prim) : Prim × Prim × Bool :=
  if p.kind = 0 ∧ q.kind = 0 ∧ p.name = q.name then hunks p q
  else if p.kind = 0 ∧ q.kind = 3 ∧ p.name = q.name then (q, { p with name := q.to }, true)
  else if p.kind = 3 ∧ q.kind = 0 ∧ p.to = q.name then ({ q with name := p.name }, p, true)
  else if p.kind = 0 ∧ q.kind = 0 then (q, p, true) else (q, p, !p.meets q)
def refSwap (p q : Prim) : Prim × Prim × Bool :=
  if p.right && q.right && (refTwo p q).2.2 && (refTwo p q).1.right && (refTwo p q).2.1.right then ((refTwo p q).1, (refTwo p q).2.1, true) else (.zero, .zero, false)
def refRight (p : Prim) : Bool :=
  if (!nameOk p.name || decide (p.kind < 0) || decide (3 < p.kind)) = true then false
  else if p.kind = 0 then (if (!decide (p.to = ⟨#[]⟩) || decide (p.pos < 0) || decide (1048576 < p.pos)) = true then false else p.old.all lineOk && p.new.all lineOk && !decide (p.old = p.new))
  else if (!decide (p.pos = 0) || decide (0 < (p.old.length : Int)) || decide (0 < (p.new.length : Int))) = true then false
  else if p.kind = 3 then nameOk p.to && !decide (p.to = p.name) else decide (p.to = ⟨#[]⟩)
theorem refRight_eq (p : Prim) : refRight p = p.right := by
  unfold refRight Prim.right Prim.bare
  by_cases hn : nameOk p.name = true
  · by_cases h0 : p.kind = 0
    · have e1 : decide (p.pos < 0) = !decide (0 ≤ p.pos) := by
        rw [Bool.eq_iff_iff]; simp
      have e2 : decide (1048576 < p.pos) = !decide (p.pos ≤ 1048576) := by
        rw [Bool.eq_iff_iff]; simp
      rw [e1, e2, if_pos h0, if_pos h0]
      simp only [hn, h0]
      cases decide (p.to = ⟨#[]⟩) <;> cases decide (0 ≤ p.pos) <;> cases decide (p.pos ≤ 1048576) <;> simp
    · by_cases hb : p.pos = 0 ∧ p.old.length = 0 ∧ p.new.length = 0
      · obtain ⟨b1, b2, b3⟩ := hb
        by_cases h3 : p.kind = 3
        · simp [hn, h3, b1, b2, b3]
        · by_cases h4 : p.kind = 1
          · simp [hn, h4, b1, b2, b3]
          · by_cases h5 : p.kind = 2
            · simp [hn, h5, b1, b2, b3]
            · have : p.kind < 0 ∨ 3 < p.kind := by omega
              simp [hn, h0, h3, h4, h5, this]
      · have hb' : (!decide (p.pos = 0) || decide (0 < (p.old.length : Int)) || decide (0 < (p.new.length : Int))) = true := by
          simp; omega
        have hb2 : (decide (p.pos = 0) && decide ((p.old.length : Int) = 0) && decide ((p.new.length : Int) = 0)) = false := by
          rw [Bool.eq_false_iff]; intro h; simp only [Bool.and_eq_true, decide_eq_true_eq] at h; omega
        rw [if_neg h0, if_pos hb', if_neg h0, hb2]
        simp
  · simp [hn]
def refNames (p : Prim) : List ByteArray := if p.kind = 3 then (if Op.bytesLess p.name.toList p.to.toList = true then [p.name, p.to] else [p.to, p.name]) else [p.name]
theorem refNames_perm (p : Prim) : (refNames p).Perm p.names := by
  unfold refNames Prim.names
  split
  · split
    · exact List.Perm.refl _
    · exact List.Perm.swap _ _ _
  · exact List.Perm.refl _
theorem any_perm {α : Type} {f : α → Bool} {l m : List α} (h : l.Perm m) : l.any f = m.any f := by
  rw [Bool.eq_iff_iff, List.any_eq_true, List.any_eq_true]
  exact ⟨fun ⟨x, h1, h2⟩ => ⟨x, h.mem_iff.1 h1, h2⟩, fun ⟨x, h1, h2⟩ => ⟨x, h.mem_iff.2 h1, h2⟩⟩
/-- a pair of prims, and a bool, as they are told -/
abbrev Two (r : Prim × Prim × Bool) := { x : (Prim × Prim × Bool) × (Rp.Lay Prim × Rp.Lay Prim) // x.1 = r }
def Two.v {r : Prim × Prim × Bool} (x : Two r) : Value := .tuple #[sv x.1.1.1 x.1.2.1, sv x.1.1.2.1 x.1.2.2, .bool x.1.1.2.2]
def Two.g {r : Prim × Prim × Bool} (x : Two r) : List Asn := Rp.asn x.1.1.1 x.1.2.1 ++ Rp.asn x.1.1.2.1 x.1.2.2
def sizes (l : List ByteArray) : Nat := (l.map ByteArray.size).sum
def Prim.many (p : Prim) : Nat := p.name.size + p.to.size + p.old.length + p.new.length + sizes p.old + sizes p.new
def many (l : List Prim) : Nat := l.length + (l.map Prim.many).sum

theorem right_pos {p : Prim} (h : p.right = true) : 0 ≤ p.pos ∧ p.pos ≤ 1048576 := by
  unfold Prim.right Prim.bare at h
  split at h
  · simp only [Bool.and_eq_true, decide_eq_true_eq] at h; omega
  · split at h <;> · simp only [Bool.and_eq_true, decide_eq_true_eq] at h; omega
theorem swapped_fit {p q : Prim} (hp : p.fit) (hq : q.fit) : (swapped p q).1.fit ∧ (swapped p q).2.1.fit := by
  obtain ⟨p1, p2, p3, p4, p5, p6⟩ := hp
  obtain ⟨q1, q2, q3, q4, q5, q6⟩ := hq
  unfold swapped hunks
  refine ⟨?_, ?_⟩ <;> (repeat' split) <;> constructor <;> assumption
theorem dcomm (a b : ByteArray) : decide (a = b) = decide (b = a) := by
  by_cases h : a = b
  · simp [h]
  · simp [h, show ¬ b = a from fun e => h e.symm]
theorem swap_eq (p q : Prim) : refSwap p q = swap p q := by
  have h : refTwo p q = swapped p q := by
    unfold refTwo swapped
    by_cases hp : p.kind = 0
    · by_cases hq : q.kind = 0
      · by_cases hn : p.name = q.name <;> simp [hp, hq, hn]
      · by_cases hq3 : q.kind = 3
        · by_cases hn : p.name = q.name
          · simp [hp, hq3, hn]
          · have h1 : decide (q.name = p.name) = false := by simp [show ¬ q.name = p.name from fun e => hn e.symm]
            have h2 : p.meets q = decide (p.name = q.to) := by
              unfold Prim.meets Prim.names
              rw [if_neg (by omega), if_pos hq3, dcomm p.name q.to]
              simp only [List.any_cons, List.any_nil, h1, Bool.false_or, Bool.or_false]
            rw [if_neg (by omega), if_neg (by simp [hn]), if_neg (by omega), if_neg (by omega), if_neg (by omega), if_pos ⟨hp, hq3⟩, if_neg hn, h2]
        · rw [if_neg (by omega), if_neg (by omega), if_neg (by omega), if_neg (by omega), if_neg (by omega), if_neg (by omega), if_neg (by omega)]
    · by_cases hp3 : p.kind = 3
      · by_cases hq : q.kind = 0
        · by_cases hn : p.to = q.name
          · simp [hp3, hq, hn]
          · have h1 : decide (q.name = p.to) = false := by simp [show ¬ q.name = p.to from fun e => hn e.symm]
            have h2 : p.meets q = decide (p.name = q.name) := by
              unfold Prim.meets Prim.names
              rw [if_pos hp3, if_neg (by omega), dcomm p.name q.name]
              simp only [List.any_cons, List.any_nil, h1, Bool.false_or, Bool.or_false]
            rw [if_neg (by omega), if_neg (by omega), if_neg (by simp [hn]), if_neg (by omega), if_neg (by omega), if_neg (by omega), if_pos ⟨hp3, hq⟩, if_neg hn, h2]
        · rw [if_neg (by omega), if_neg (by omega), if_neg (by omega), if_neg (by omega), if_neg (by omega), if_neg (by omega), if_neg (by omega)]
      · rw [if_neg (by omega), if_neg (by omega), if_neg (by omega), if_neg (by omega), if_neg (by omega), if_neg (by omega), if_neg (by omega)]
  unfold refSwap swap
  rw [h]
theorem dropWhile_nil {f : UInt8 → Bool} : ∀ (l : List UInt8), l.dropWhile f = [] ↔ ∀ b ∈ l, f b = true
  | [] => by simp
  | x :: l => by
    rw [List.dropWhile_cons]
    have ih := dropWhile_nil (f := f) l
    by_cases h : f x = true
    · rw [if_pos h, ih]; simp [h]
    · rw [if_neg h]; simp [h]
theorem meets_ref (p q : Prim) : ((refNames p).any fun s => (refNames q).any fun t => decide (s = t)) = p.meets q := by
  unfold Prim.meets
  rw [any_perm (refNames_perm p)]
  congr 1
  funext s
  rw [any_perm (refNames_perm q)]
  congr 1
  funext t
  exact dcomm s t
theorem trimS_nil (l cs : List UInt8) : Lib.trimS l cs = [] ↔ ∀ b ∈ l, cs.contains b = true := by
  unfold Lib.trimS Lib.trimLeftS Lib.trimRightS
  constructor
  · intro h b hb
    have h1 : ∀ x ∈ (l.reverse.dropWhile (cs.contains ·)).reverse, cs.contains x = true := by
      have := (dropWhile_nil _).1 h
      exact this
    have h2 : l.reverse = l.reverse.takeWhile (cs.contains ·) ++ l.reverse.dropWhile (cs.contains ·) := (List.takeWhile_append_dropWhile).symm
    have hb' : b ∈ l.reverse := by simpa using hb
    rw [h2] at hb'
    rcases List.mem_append.1 hb' with h3 | h3
    · exact List.all_eq_true.1 (List.all_takeWhile (p := (cs.contains ·)) (l := l.reverse)) b h3
    · exact h1 b (by simpa using h3)
  · intro h
    rw [dropWhile_nil]
    intro x hx
    have : x ∈ l := by
      have := (List.dropWhile_sublist _).mem (by simpa using hx : x ∈ l.reverse.dropWhile (cs.contains ·))
      simpa using this
    exact h x this
end Go.Sx

end
section
set_option linter.unusedVariables false
set_option linter.unusedSimpArgs false
namespace Go.Sx
open Go
theorem meets_comm (p q : Prim) : p.meets q = q.meets p := by
  rw [Bool.eq_iff_iff]
  unfold Prim.meets
  simp only [List.any_eq_true, decide_eq_true_eq]
  constructor
  · rintro ⟨a, ha, b, hb, rfl⟩; exact ⟨b, hb, b, ha, rfl⟩
  · rintro ⟨a, ha, b, hb, rfl⟩; exact ⟨b, hb, b, ha, rfl⟩
theorem flip_names (p : Prim) : p.flip.names.Perm p.names := by
  unfold Prim.flip Prim.names
  by_cases h0 : p.kind = 0
  · simp [h0]
  · by_cases h1 : p.kind = 1 ∨ p.kind = 2
    · rw [if_neg h0, if_pos h1]
      rcases h1 with h | h <;> simp [h]
    · rw [if_neg h0, if_neg h1]
      by_cases h3 : p.kind = 3
      · simp only [h3, if_true]
        exact List.Perm.swap _ _ _
      · simp [h3]
theorem meets_flip (p q : Prim) : p.flip.meets q = p.meets q := by
  unfold Prim.meets
  exact any_perm (flip_names p)
theorem flip_flip (p : Prim) : p.flip.flip = p := by
  obtain ⟨k, a, b, n, o, w⟩ := p
  unfold Prim.flip
  by_cases h0 : k = 0
  · simp [h0]
  · by_cases h1 : k = 1
    · simp [h1]
    · by_cases h2 : k = 2
      · simp [h2]
      · by_cases h3 : k = 3
        · simp [h3]
        · simp [h0, h1, h2, h3]
theorem flip_kind (p : Prim) : (p.flip.kind = 0 ↔ p.kind = 0) ∧ (p.flip.kind = 3 ↔ p.kind = 3) := by
  unfold Prim.flip
  split
  · simp_all
  · split
    · rename_i h0 h
      show (3 - p.kind = 0 ↔ p.kind = 0) ∧ (3 - p.kind = 3 ↔ p.kind = 3)
      omega
    · split
      · simp_all
      · simp_all
theorem flip_right (p : Prim) : p.flip.right = p.right := by
  obtain ⟨k, a, b, n, o, w⟩ := p
  unfold Prim.flip Prim.right Prim.bare
  by_cases h0 : k = 0
  · simp only [h0, if_true]
    rw [show decide (w = o) = decide (o = w) from by by_cases h : o = w <;> simp [h, eq_comm]]
    cases nameOk a <;> cases decide (b = ⟨#[]⟩) <;> cases decide (0 ≤ n) <;> cases decide (n ≤ 1048576) <;> cases o.all lineOk <;> cases w.all lineOk <;> simp
  · by_cases h1 : k = 1
    · simp [h1]
    · by_cases h2 : k = 2
      · simp [h2]
      · by_cases h3 : k = 3
        · simp only [h3]
          simp only [show ¬ ((3 : Int) = 0) by decide, show ¬ ((3 : Int) = 1 ∨ (3 : Int) = 2) by decide, if_true, if_false]
          rw [dcomm a b]
          cases nameOk a <;> cases nameOk b <;> simp
        · simp [h0, h1, h2, h3]
/-- what a swap tells, if it is one -/
theorem swap_true {p q a b : Prim} (h : swap p q = (a, b, true)) : swapped p q = (a, b, true) ∧ p.right = true ∧ q.right = true ∧ a.right = true ∧ b.right = true := by
  unfold swap at h
  split at h
  · rename_i hc
    simp only [Bool.and_eq_true] at hc
    obtain ⟨⟨⟨⟨h1, h2⟩, h3⟩, h4⟩, h5⟩ := hc
    simp only [Prod.mk.injEq, and_true] at h
    obtain ⟨rfl, rfl⟩ := h
    refine ⟨?_, h1, h2, h4, h5⟩
    rw [← h3]
  · simp at h
theorem swap_mk {p q a b : Prim} (h : swapped p q = (a, b, true)) (h1 : p.right = true) (h2 : q.right = true) (h3 : a.right = true) (h4 : b.right = true) : swap p q = (a, b, true) := by
  unfold swap
  rw [h]
  simp [h1, h2, h3, h4]
theorem swap_false {p q : Prim} (h : (swap p q).2.2 = false) : swap p q = (.zero, .zero, false) := by
  unfold swap at h ⊢
  split at h
  · simp at h
  · rename_i hc; rw [if_neg hc]
/-- the ways that a swap can go -/
theorem swapped_cases {p q a b : Prim} (h : swapped p q = (a, b, true)) :
    (p.kind = 0 ∧ q.kind = 0 ∧ p.name = q.name ∧ p.pos + p.new.length < q.pos ∧ a = { q with pos := q.pos - ((p.new.length : Int) - p.old.length) } ∧ b = p) ∨
    (p.kind = 0 ∧ q.kind = 0 ∧ p.name = q.name ∧ q.pos + q.old.length < p.pos ∧ a = q ∧ b = { p with pos := p.pos + ((q.new.length : Int) - q.old.length) }) ∨
    (p.kind = 0 ∧ q.kind = 0 ∧ p.name ≠ q.name ∧ a = q ∧ b = p) ∨
    (p.kind = 0 ∧ q.kind = 3 ∧ p.name = q.name ∧ a = q ∧ b = { p with name := q.to }) ∨
    (p.kind = 0 ∧ q.kind = 3 ∧ p.name ≠ q.name ∧ p.name ≠ q.to ∧ a = q ∧ b = p) ∨
    (p.kind = 3 ∧ q.kind = 0 ∧ p.to = q.name ∧ a = { q with name := p.name } ∧ b = p) ∨
    (p.kind = 3 ∧ q.kind = 0 ∧ p.to ≠ q.name ∧ p.name ≠ q.name ∧ a = q ∧ b = p) ∨
    (¬ (p.kind = 0 ∧ q.kind = 0) ∧ ¬ (p.kind = 0 ∧ q.kind = 3) ∧ ¬ (p.kind = 3 ∧ q.kind = 0) ∧ p.meets q = false ∧ a = q ∧ b = p) := by
  unfold swapped hunks at h
  by_cases h1 : p.kind = 0 ∧ q.kind = 0
  · rw [if_pos h1] at h
    by_cases hn : p.name = q.name
    · rw [if_pos hn] at h
      by_cases c1 : p.pos + p.new.length < q.pos
      · rw [if_pos c1] at h
        simp only [Prod.mk.injEq] at h
        exact .inl ⟨h1.1, h1.2, hn, c1, h.1.symm, h.2.1.symm⟩
      · rw [if_neg c1] at h
        by_cases c2 : q.pos + q.old.length < p.pos
        · rw [if_pos c2] at h
          simp only [Prod.mk.injEq] at h
          exact .inr (.inl ⟨h1.1, h1.2, hn, c2, h.1.symm, h.2.1.symm⟩)
        · rw [if_neg c2] at h
          simp at h
    · rw [if_neg hn] at h
      simp only [Prod.mk.injEq] at h
      exact .inr (.inr (.inl ⟨h1.1, h1.2, hn, h.1.symm, h.2.1.symm⟩))
  · rw [if_neg h1] at h
    by_cases h2 : p.kind = 0 ∧ q.kind = 3
    · rw [if_pos h2] at h
      by_cases hn : p.name = q.name
      · rw [if_pos hn] at h
        simp only [Prod.mk.injEq] at h
        exact .inr (.inr (.inr (.inl ⟨h2.1, h2.2, hn, h.1.symm, h.2.1.symm⟩)))
      · rw [if_neg hn] at h
        simp only [Prod.mk.injEq, Bool.not_eq_true', decide_eq_false_iff_not] at h
        exact .inr (.inr (.inr (.inr (.inl ⟨h2.1, h2.2, hn, h.2.2, h.1.symm, h.2.1.symm⟩))))
    · rw [if_neg h2] at h
      by_cases h3 : p.kind = 3 ∧ q.kind = 0
      · rw [if_pos h3] at h
        by_cases hn : p.to = q.name
        · rw [if_pos hn] at h
          simp only [Prod.mk.injEq] at h
          exact .inr (.inr (.inr (.inr (.inr (.inl ⟨h3.1, h3.2, hn, h.1.symm, h.2.1.symm⟩)))))
        · rw [if_neg hn] at h
          simp only [Prod.mk.injEq, Bool.not_eq_true', decide_eq_false_iff_not] at h
          exact .inr (.inr (.inr (.inr (.inr (.inr (.inl ⟨h3.1, h3.2, hn, h.2.2, h.1.symm, h.2.1.symm⟩))))))
      · rw [if_neg h3] at h
        simp only [Prod.mk.injEq, Bool.not_eq_true'] at h
        exact .inr (.inr (.inr (.inr (.inr (.inr (.inr ⟨h1, h2, h3, h.2.2, h.1.symm, h.2.1.symm⟩))))))
theorem sw00a {p q : Prim} (h0 : p.kind = 0) (h1 : q.kind = 0) (hn : p.name = q.name) (h : p.pos + p.new.length < q.pos) : swapped p q = ({ q with pos := q.pos - ((p.new.length : Int) - p.old.length) }, p, true) := by
  rw [swapped, if_pos ⟨h0, h1⟩, if_pos hn, hunks, if_pos h]
theorem sw00b {p q : Prim} (h0 : p.kind = 0) (h1 : q.kind = 0) (hn : p.name = q.name) (h' : ¬ p.pos + p.new.length < q.pos) (h : q.pos + q.old.length < p.pos) : swapped p q = (q, { p with pos := p.pos + ((q.new.length : Int) - q.old.length) }, true) := by
  rw [swapped, if_pos ⟨h0, h1⟩, if_pos hn, hunks, if_neg h', if_pos h]
theorem sw00n {p q : Prim} (h0 : p.kind = 0) (h1 : q.kind = 0) (hn : p.name ≠ q.name) : swapped p q = (q, p, true) := by
  rw [swapped, if_pos ⟨h0, h1⟩, if_neg hn]
theorem sw03 {p q : Prim} (h0 : p.kind = 0) (h1 : q.kind = 3) (hn : p.name = q.name) : swapped p q = (q, { p with name := q.to }, true) := by
  rw [swapped, if_neg (by omega), if_pos ⟨h0, h1⟩, if_pos hn]
theorem sw03n {p q : Prim} (h0 : p.kind = 0) (h1 : q.kind = 3) (hn : p.name ≠ q.name) (ht : p.name ≠ q.to) : swapped p q = (q, p, true) := by
  rw [swapped, if_neg (by omega), if_pos ⟨h0, h1⟩, if_neg hn]; simp [ht]
theorem sw30 {p q : Prim} (h0 : p.kind = 3) (h1 : q.kind = 0) (hn : p.to = q.name) : swapped p q = ({ q with name := p.name }, p, true) := by
  rw [swapped, if_neg (by omega), if_neg (by omega), if_pos ⟨h0, h1⟩, if_pos hn]
theorem sw30n {p q : Prim} (h0 : p.kind = 3) (h1 : q.kind = 0) (hn : p.to ≠ q.name) (ht : p.name ≠ q.name) : swapped p q = (q, p, true) := by
  rw [swapped, if_neg (by omega), if_neg (by omega), if_pos ⟨h0, h1⟩, if_neg hn]; simp [ht]
theorem swel {p q : Prim} (h1 : ¬ (p.kind = 0 ∧ q.kind = 0)) (h2 : ¬ (p.kind = 0 ∧ q.kind = 3)) (h3 : ¬ (p.kind = 3 ∧ q.kind = 0)) (h : p.meets q = false) : swapped p q = (q, p, true) := by
  rw [swapped, if_neg h1, if_neg h2, if_neg h3, h]; rfl
theorem swapped_back {p q a b : Prim} (h : swapped p q = (a, b, true)) : swapped a b = (p, q, true) := by
  rcases swapped_cases h with ⟨h0, h1, hn, hc, rfl, rfl⟩ | ⟨h0, h1, hn, hc, rfl, rfl⟩ | ⟨h0, h1, hn, rfl, rfl⟩ | ⟨h0, h1, hn, rfl, rfl⟩ | ⟨h0, h1, hn, ht, rfl, rfl⟩ | ⟨h0, h1, hn, rfl, rfl⟩ | ⟨h0, h1, hn, ht, rfl, rfl⟩ | ⟨h1, h2, h3, hm, rfl, rfl⟩
  · refine Eq.trans (sw00b h1 h0 hn.symm (by dsimp only; omega) (by dsimp only; omega)) ?_
    simp only [Prod.mk.injEq, true_and, and_true]
    cases q; simp
  · refine Eq.trans (sw00a h1 h0 hn.symm (by dsimp only; omega)) ?_
    simp only [Prod.mk.injEq, true_and, and_true]
    cases p; simp
  · exact sw00n h1 h0 (Ne.symm hn)
  · refine Eq.trans (sw30 h1 h0 rfl) ?_
    simp only [Prod.mk.injEq, true_and, and_true]
    cases p; simp_all
  · exact sw30n h1 h0 (Ne.symm ht) (Ne.symm hn)
  · refine Eq.trans (sw03 h1 h0 rfl) ?_
    simp only [Prod.mk.injEq, true_and, and_true]
    cases q; simp_all
  · exact sw03n h1 h0 (Ne.symm ht) (Ne.symm hn)
  · exact swel (fun e => h1 ⟨e.2, e.1⟩) (fun e => h3 ⟨e.2, e.1⟩) (fun e => h2 ⟨e.2, e.1⟩) (by rw [meets_comm]; exact hm)
theorem swap_back {p q a b : Prim} (h : swap p q = (a, b, true)) : swap a b = (p, q, true) := by
  obtain ⟨h1, h2, h3, h4, h5⟩ := swap_true h
  exact swap_mk (swapped_back h1) h4 h5 h2 h3
theorem flip0 {p : Prim} (h : p.kind = 0) : p.flip = { p with old := p.new, new := p.old } := by rw [Prim.flip, if_pos h]
theorem flip3 {p : Prim} (h : p.kind = 3) : p.flip = { p with name := p.to, to := p.name } := by rw [Prim.flip, if_neg (by omega), if_neg (by omega), if_pos h]
theorem swapped_square {p q a b : Prim} (h : swapped p q = (a, b, true)) : swapped p.flip a = (q, b.flip, true) := by
  rcases swapped_cases h with ⟨h0, h1, hn, hc, ha, hb⟩ | ⟨h0, h1, hn, hc, ha, hb⟩ | ⟨h0, h1, hn, ha, hb⟩ | ⟨h0, h1, hn, ha, hb⟩ | ⟨h0, h1, hn, ht, ha, hb⟩ | ⟨h0, h1, hn, ha, hb⟩ | ⟨h0, h1, hn, ht, ha, hb⟩ | ⟨h1, h2, h3, hm, ha, hb⟩
  all_goals subst ha; subst hb; clear h
  · rw [flip0 h0]
    refine Eq.trans (sw00a h0 h1 hn (by dsimp only; omega)) ?_
    first | rfl | (simp only [Prod.mk.injEq, true_and, and_true]; cases q; simp; omega) | (simp only [Prod.mk.injEq, true_and, and_true, Prim.flip, h0, h1, if_true]; simp; omega) | (simp [Prim.flip, h0, h1]; done) | (simp [Prim.flip, h0, h1]; omega) | (simp_all [Prim.flip]; done) | (simp_all [Prim.flip]; omega)
  · rw [flip0 h0]
    refine Eq.trans (sw00b h0 h1 hn (by dsimp only; omega) (by dsimp only; omega)) ?_
    first | rfl | (simp only [Prod.mk.injEq, true_and, and_true]; cases q; simp; omega) | (simp only [Prod.mk.injEq, true_and, and_true, Prim.flip, h0, h1, if_true]; simp; omega) | (simp [Prim.flip, h0, h1]; done) | (simp [Prim.flip, h0, h1]; omega) | (simp_all [Prim.flip]; done) | (simp_all [Prim.flip]; omega)
  · rw [flip0 h0]
    refine Eq.trans (sw00n h0 h1 hn) ?_
    first | rfl | (simp only [Prod.mk.injEq, true_and, and_true]; cases q; simp; omega) | (simp only [Prod.mk.injEq, true_and, and_true, Prim.flip, h0, h1, if_true]; simp; omega) | (simp [Prim.flip, h0, h1]; done) | (simp [Prim.flip, h0, h1]; omega) | (simp_all [Prim.flip]; done) | (simp_all [Prim.flip]; omega)
  · rw [flip0 h0]
    refine Eq.trans (sw03 h0 h1 hn) ?_
    first | rfl | (simp only [Prod.mk.injEq, true_and, and_true]; cases q; simp; omega) | (simp only [Prod.mk.injEq, true_and, and_true, Prim.flip, h0, h1, if_true]; simp; omega) | (simp [Prim.flip, h0, h1]; done) | (simp [Prim.flip, h0, h1]; omega) | (simp_all [Prim.flip]; done) | (simp_all [Prim.flip]; omega)
  · rw [flip0 h0]
    refine Eq.trans (sw03n h0 h1 hn ht) ?_
    first | rfl | (simp only [Prod.mk.injEq, true_and, and_true]; cases q; simp; omega) | (simp only [Prod.mk.injEq, true_and, and_true, Prim.flip, h0, h1, if_true]; simp; omega) | (simp [Prim.flip, h0, h1]; done) | (simp [Prim.flip, h0, h1]; omega) | (simp_all [Prim.flip]; done) | (simp_all [Prim.flip]; omega)
  · rw [flip3 h0]
    refine Eq.trans (sw30 h0 h1 rfl) ?_
    first | rfl | (simp only [Prod.mk.injEq, true_and, and_true]; cases q; simp; omega) | (simp only [Prod.mk.injEq, true_and, and_true, Prim.flip, h0, h1, if_true]; simp; omega) | (simp [Prim.flip, h0, h1]; done) | (simp [Prim.flip, h0, h1]; omega) | (simp_all [Prim.flip]; done) | (simp_all [Prim.flip]; omega)
  · rw [flip3 h0]
    refine Eq.trans (sw30n h0 h1 ht hn) ?_
    first | rfl | (simp only [Prod.mk.injEq, true_and, and_true]; cases q; simp; omega) | (simp only [Prod.mk.injEq, true_and, and_true, Prim.flip, h0, h1, if_true]; simp; omega) | (simp [Prim.flip, h0, h1]; done) | (simp [Prim.flip, h0, h1]; omega) | (simp_all [Prim.flip]; done) | (simp_all [Prim.flip]; omega)
  · exact swel (fun e => h1 ⟨(flip_kind _).1.1 e.1, e.2⟩) (fun e => h2 ⟨(flip_kind _).1.1 e.1, e.2⟩) (fun e => h3 ⟨(flip_kind _).2.1 e.1, e.2⟩) (by rw [meets_flip]; exact hm)
theorem swap_square {p q a b : Prim} (h : swap p q = (a, b, true)) : swap p.flip a = (q, b.flip, true) := by
  obtain ⟨h1, h2, h3, h4, h5⟩ := swap_true h
  exact swap_mk (swapped_square h1) (by rw [flip_right]; exact h2) h4 h3 (by rw [flip_right]; exact h5)
theorem swapped_inv {p q a b : Prim} (h : swapped p q = (a, b, true)) : swapped q.flip p.flip = (b.flip, a.flip, true) := by
  rcases swapped_cases h with ⟨h0, h1, hn, hc, ha, hb⟩ | ⟨h0, h1, hn, hc, ha, hb⟩ | ⟨h0, h1, hn, ha, hb⟩ | ⟨h0, h1, hn, ha, hb⟩ | ⟨h0, h1, hn, ht, ha, hb⟩ | ⟨h0, h1, hn, ha, hb⟩ | ⟨h0, h1, hn, ht, ha, hb⟩ | ⟨h1, h2, h3, hm, ha, hb⟩
  all_goals subst ha; subst hb; clear h
  · rw [flip0 h0, flip0 h1]
    refine Eq.trans (sw00b h1 h0 hn.symm (by dsimp only; omega) (by dsimp only; omega)) ?_
    first | rfl | (simp only [Prod.mk.injEq, true_and, and_true]; cases q; simp; omega) | (simp only [Prod.mk.injEq, true_and, and_true, Prim.flip, h0, h1, if_true]; simp; omega) | (simp [Prim.flip, h0, h1]; done) | (simp [Prim.flip, h0, h1]; omega) | (simp_all [Prim.flip]; done) | (simp_all [Prim.flip]; omega)
  · rw [flip0 h0, flip0 h1]
    refine Eq.trans (sw00a h1 h0 hn.symm (by dsimp only; omega)) ?_
    first | rfl | (simp only [Prod.mk.injEq, true_and, and_true]; cases q; simp; omega) | (simp only [Prod.mk.injEq, true_and, and_true, Prim.flip, h0, h1, if_true]; simp; omega) | (simp [Prim.flip, h0, h1]; done) | (simp [Prim.flip, h0, h1]; omega) | (simp_all [Prim.flip]; done) | (simp_all [Prim.flip]; omega)
  · rw [flip0 h0, flip0 h1]
    refine Eq.trans (sw00n h1 h0 (Ne.symm hn)) ?_
    first | rfl | (simp only [Prod.mk.injEq, true_and, and_true]; cases q; simp; omega) | (simp only [Prod.mk.injEq, true_and, and_true, Prim.flip, h0, h1, if_true]; simp; omega) | (simp [Prim.flip, h0, h1]; done) | (simp [Prim.flip, h0, h1]; omega) | (simp_all [Prim.flip]; done) | (simp_all [Prim.flip]; omega)
  · rw [flip0 h0, flip3 h1]
    refine Eq.trans (sw30 h1 h0 hn.symm) ?_
    first | rfl | (simp only [Prod.mk.injEq, true_and, and_true]; cases q; simp; omega) | (simp only [Prod.mk.injEq, true_and, and_true, Prim.flip, h0, h1, if_true]; simp; omega) | (simp [Prim.flip, h0, h1]; done) | (simp [Prim.flip, h0, h1]; omega) | (simp_all [Prim.flip]; done) | (simp_all [Prim.flip]; omega)
  · rw [flip0 h0, flip3 h1]
    refine Eq.trans (sw30n h1 h0 (Ne.symm hn) (Ne.symm ht)) ?_
    first | rfl | (simp only [Prod.mk.injEq, true_and, and_true]; cases q; simp; omega) | (simp only [Prod.mk.injEq, true_and, and_true, Prim.flip, h0, h1, if_true]; simp; omega) | (simp [Prim.flip, h0, h1]; done) | (simp [Prim.flip, h0, h1]; omega) | (simp_all [Prim.flip]; done) | (simp_all [Prim.flip]; omega)
  · rw [flip3 h0, flip0 h1]
    refine Eq.trans (sw03 h1 h0 hn.symm) ?_
    first | rfl | (simp only [Prod.mk.injEq, true_and, and_true]; cases q; simp; omega) | (simp only [Prod.mk.injEq, true_and, and_true, Prim.flip, h0, h1, if_true]; simp; omega) | (simp [Prim.flip, h0, h1]; done) | (simp [Prim.flip, h0, h1]; omega) | (simp_all [Prim.flip]; done) | (simp_all [Prim.flip]; omega)
  · rw [flip3 h0, flip0 h1]
    refine Eq.trans (sw03n h1 h0 (Ne.symm hn) (Ne.symm ht)) ?_
    first | rfl | (simp only [Prod.mk.injEq, true_and, and_true]; cases q; simp; omega) | (simp only [Prod.mk.injEq, true_and, and_true, Prim.flip, h0, h1, if_true]; simp; omega) | (simp [Prim.flip, h0, h1]; done) | (simp [Prim.flip, h0, h1]; omega) | (simp_all [Prim.flip]; done) | (simp_all [Prim.flip]; omega)
  · exact swel (fun e => h1 ⟨(flip_kind _).1.1 e.2, (flip_kind _).1.1 e.1⟩) (fun e => h3 ⟨(flip_kind _).2.1 e.2, (flip_kind _).1.1 e.1⟩) (fun e => h2 ⟨(flip_kind _).1.1 e.2, (flip_kind _).2.1 e.1⟩) (by rw [meets_flip, meets_comm, meets_flip]; exact hm)
theorem swap_inv {p q a b : Prim} (h : swap p q = (a, b, true)) : swap q.flip p.flip = (b.flip, a.flip, true) := by
  obtain ⟨h1, h2, h3, h4, h5⟩ := swap_true h
  exact swap_mk (swapped_inv h1) (by rw [flip_right]; exact h3) (by rw [flip_right]; exact h2) (by rw [flip_right]; exact h5) (by rw [flip_right]; exact h4)
theorem swap_keeps {p q a b : Prim} (h : swap p q = (a, b, true)) : (a.kind = q.kind ∧ a.old.length = q.old.length ∧ a.new.length = q.new.length ∧ (a.kind = 0 ∨ a = q)) ∧ (b.kind = p.kind ∧ b.old.length = p.old.length ∧ b.new.length = p.new.length ∧ (b.kind = 0 ∨ b = p)) := by
  obtain ⟨h1, h2, h3, h4, h5⟩ := swap_true h
  rcases swapped_cases h1 with ⟨h0, h1, hn, hc, rfl, rfl⟩ | ⟨h0, h1, hn, hc, rfl, rfl⟩ | ⟨h0, h1, hn, rfl, rfl⟩ | ⟨h0, h1, hn, rfl, rfl⟩ | ⟨h0, h1, hn, ht, rfl, rfl⟩ | ⟨h0, h1, hn, rfl, rfl⟩ | ⟨h0, h1, hn, ht, rfl, rfl⟩ | ⟨h1, h2, h3, hm, rfl, rfl⟩ <;> simp_all
end Go.Sx

end
section
set_option linter.unusedVariables false
set_option linter.unusedSimpArgs false
namespace Go.Sx
open Go
/-- one prim comes behind a row: the row, and it -/
def past1 (p : Prim) : List Prim → Option (List Prim × Prim)
  | [] => some ([], p)
  | q :: m => if (swap p q).2.2 = true then (past1 (swap p q).2.1 m).map fun r => ((swap p q).1 :: r.1, r.2) else none
/-- a row (its last one first) comes behind another one -/
def swapR : List Prim → List Prim → List Prim → Option (List Prim × List Prim)
  | [], first, second => some (first, second)
  | p :: l, first, second => (past1 p first).bind fun r => swapR l r.1 (r.2 :: second)
def swapL (l m : List Prim) : Option (List Prim × List Prim) := swapR l.reverse m []
/-- 'p passes m, and they are f and q' -/
def Pas (p : Prim) (m f : List Prim) (q : Prim) : Prop := past1 p m = some (f, q)
theorem pas_nil {p q : Prim} {f : List Prim} : Pas p [] f q ↔ f = [] ∧ q = p := by
  unfold Pas past1
  simp [eq_comm]
theorem pas_cons {p x q : Prim} {m f : List Prim} : Pas p (x :: m) f q ↔ ∃ a b f', swap p x = (a, b, true) ∧ Pas b m f' q ∧ f = a :: f' := by
  unfold Pas
  rw [past1]
  constructor
  · intro h
    split at h
    · rename_i hc
      rw [Option.map_eq_some_iff] at h
      obtain ⟨r, h1, h2⟩ := h
      obtain ⟨r1, r2⟩ := r
      simp only [Prod.mk.injEq] at h2
      exact ⟨_, _, r1, by rw [← hc], by rw [h1, h2.2], h2.1.symm⟩
    · cases h
  · rintro ⟨a, b, f', h1, h2, rfl⟩
    rw [h1]
    simp [h2]
theorem pas_app {q : Prim} {m2 f : List Prim} : ∀ {m1 : List Prim} {p : Prim}, Pas p (m1 ++ m2) f q ↔ ∃ f1 f2 b, Pas p m1 f1 b ∧ Pas b m2 f2 q ∧ f = f1 ++ f2
  | [], p => by
    simp only [List.nil_append, pas_nil]
    constructor
    · intro h; exact ⟨[], f, p, ⟨rfl, rfl⟩, h, rfl⟩
    · rintro ⟨_, f2, _, ⟨rfl, rfl⟩, h, rfl⟩; exact h
  | x :: m1, p => by
    rw [List.cons_append, pas_cons]
    constructor
    · rintro ⟨a, b, f', h1, h2, rfl⟩
      obtain ⟨f1, f2, c, h3, h4, rfl⟩ := pas_app.1 h2
      exact ⟨a :: f1, f2, c, pas_cons.2 ⟨a, b, f1, h1, h3, rfl⟩, h4, rfl⟩
    · rintro ⟨f1, f2, c, h1, h2, rfl⟩
      obtain ⟨a, b, f', h3, h4, rfl⟩ := pas_cons.1 h1
      exact ⟨a, b, f' ++ f2, h3, pas_app.2 ⟨f', f2, c, h4, h2, rfl⟩, rfl⟩
/-- 'l passes m, and they are f and s' : the last one of l first -/
inductive Grid : List Prim → List Prim → List Prim → List Prim → Prop
  | nil {m} : Grid [] m m []
  | row {l p m n q f s} : Pas p m n q → Grid l n f s → Grid (l ++ [p]) m f (s ++ [q])
/-- as the program tells it -/
def pastT (p : Prim) (m : List Prim) : List Prim × Prim × Bool := match past1 p m with
  | some r => (r.1, r.2, true)
  | none => ([], Prim.zero, false)
/-- k of m are passed, they are f, and p is p' -/
def PI (p : Prim) (m : List Prim) (k : Nat) (f : List Prim) (p' : Prim) : Prop := past1 p m = (past1 p' (m.drop k)).map fun r => (f ++ r.1, r.2)
theorem PI.start (p : Prim) (m : List Prim) : PI p m 0 [] p := by
  unfold PI
  cases h : past1 p m <;> simp [h]
theorem PI.step {p p' a b : Prim} {m f : List Prim} {k : Nat} (h : PI p m k f p') (hk : k < m.length) (hs : (a, b, true) = swap p' m[k]) : PI p m (k + 1) (f ++ [a]) b := by
  unfold PI at *
  rw [h, List.drop_eq_getElem_cons hk, past1, ← hs]
  simp only [if_true]
  cases past1 b (m.drop (k + 1)) <;> simp
theorem PI.stop {p p' a b : Prim} {m f : List Prim} {k : Nat} (h : PI p m k f p') (hk : k < m.length) (hs : (a, b, false) = swap p' m[k]) : pastT p m = ([], Prim.zero, false) := by
  unfold PI at h
  unfold pastT
  rw [h, List.drop_eq_getElem_cons hk, past1, ← hs]
  rfl
theorem PI.done {p p' : Prim} {m f : List Prim} {k : Nat} (h : PI p m k f p') (hk : ¬ k < m.length) : pastT p m = (f, p', true) := by
  unfold PI at h
  unfold pastT
  rw [h, List.drop_eq_nil_of_le (by omega), past1]
  simp
end Go.Sx

end
section
set_option linter.unusedVariables false
namespace Go.Proofs.YtdbiillompeclaaGreatDoor.X
open Go Go.RowKit Go.Proofs Go.Sx
theorem zero_fit : Prim.zero.fit := ⟨by decide, by decide, by decide, by decide, (fun s h => by cases h), (fun s h => by cases h)⟩
theorem swap_fit {p q : Prim} (hp : p.fit) (hq : q.fit) : (swap p q).1.fit ∧ (swap p q).2.1.fit := by
  unfold swap
  split
  · exact swapped_fit hp hq
  · exact ⟨zero_fit, zero_fit⟩
theorem past1_ok : ∀ {m : List Prim} {p q : Prim} {f : List Prim}, past1 p m = some (f, q) → p.fit → (∀ x ∈ m, x.fit) → f.length = m.length ∧ q.fit ∧ ∀ x ∈ f, x.fit
  | [], p, q, f, h, hp, _ => by
    simp only [past1, Option.some.injEq, Prod.mk.injEq] at h
    obtain ⟨rfl, rfl⟩ := h
    exact ⟨rfl, hp, by simp⟩
  | x :: m, p, q, f, h, hp, hm => by
    rw [past1] at h
    split at h
    · rw [Option.map_eq_some_iff] at h
      obtain ⟨⟨r1, r2⟩, h1, h2⟩ := h
      simp only [Prod.mk.injEq] at h2
      obtain ⟨rfl, rfl⟩ := h2
      obtain ⟨e1, e2⟩ := swap_fit hp (hm x (by simp))
      obtain ⟨k1, k2, k3⟩ := past1_ok h1 e2 (fun y hy => hm y (by simp [hy]))
      refine ⟨by simp [k1], k2, fun y hy => ?_⟩
      rcases List.mem_cons.1 hy with rfl | hy
      · exact e1
      · exact k3 y hy
    · cases h
theorem pastT_true {p q : Prim} {m f : List Prim} (h : (f, q, true) = pastT p m) : past1 p m = some (f, q) := by
  unfold pastT at h
  cases hh : past1 p m with
  | none => rw [hh] at h; simp at h
  | some r => rw [hh] at h; simp only [Prod.mk.injEq, and_true] at h; rw [h.1, h.2]
theorem pastT_false {p q : Prim} {m f : List Prim} (h : (f, q, false) = pastT p m) : past1 p m = none := by
  unfold pastT at h
  cases hh : past1 p m with
  | none => rfl
  | some r => rw [hh] at h; simp at h
def swT (l m : List Prim) : List Prim × List Prim × Bool := match swapL l m with
  | some r => (r.1, r.2, true)
  | none => ([], [], false)
/-- j of l, from behind, are through; what is ahead is f, what is behind is s -/
structure SI (l m : List Prim) (j : Nat) (f s : List Prim) : Prop where
  eq : swapL l m = swapR (l.reverse.drop j) f s
  fl : f.length = m.length
  sl : s.length = j
  ff : ∀ x ∈ f, x.fit
  fs : ∀ x ∈ s, x.fit
theorem SI.start {l m : List Prim} (h : ∀ x ∈ m, x.fit) : SI l m 0 m [] := ⟨rfl, rfl, rfl, h, by simp⟩
theorem rev_drop {α : Type} {l : List α} {j k : Nat} (h : k + j + 1 = l.length) : l.reverse.drop j = l[k] :: l.reverse.drop (j + 1) := by
  have hj : j < l.reverse.length := by simp; omega
  rw [List.drop_eq_getElem_cons hj, List.getElem_reverse]
  congr 2
  omega
theorem SI.step {l m f s f' : List Prim} {j k : Nat} {q : Prim} (h : SI l m j f s) (hk : k + j + 1 = l.length) (hl : ∀ x ∈ l, x.fit) (hp : (f', q, true) = pastT l[k] f) : SI l m (j + 1) f' (q :: s) := by
  have h1 := pastT_true hp
  obtain ⟨k1, k2, k3⟩ := past1_ok h1 (hl _ (List.getElem_mem _)) h.ff
  refine ⟨?_, k1.trans h.fl, by simp [h.sl], k3, fun y hy => ?_⟩
  · rw [h.eq, rev_drop hk, swapR, h1]; rfl
  · rcases List.mem_cons.1 hy with rfl | hy
    · exact k2
    · exact h.fs y hy
theorem SI.stop {l m f s f' : List Prim} {j k : Nat} {q : Prim} (h : SI l m j f s) (hk : k + j + 1 = l.length) (hp : (f', q, false) = pastT l[k] f) : swT l m = ([], [], false) := by
  unfold swT
  rw [h.eq, rev_drop hk, swapR, pastT_false hp]; rfl
theorem SI.done {l m f s : List Prim} {j : Nat} (h : SI l m j f s) (hj : j = l.length) : swT l m = (f, s, true) := by
  unfold swT
  rw [h.eq, List.drop_eq_nil_of_le (by simp; omega), swapR]
theorem mid_get1 {α : Type} {T d r : List α} {p : α} {k : Nat} (hk : k = T.length + d.length) : (T ++ (d ++ p :: r))[k]? = some p := by
  subst hk; simp
theorem mid_get2 {α : Type} {T d r : List α} {p q : α} {k : Nat} (hk : k = T.length + d.length + 1) : (T ++ (d ++ p :: q :: r))[k]? = some q := by
  subst hk
  rw [List.getElem?_append_right (by omega), List.getElem?_append_right (by omega)]
  have : T.length + d.length + 1 - T.length - d.length = 1 := by omega
  rw [this]; rfl
theorem mid_set {α : Type} {T d r : List α} {p q a b : α} {k : Nat} (hk : k = T.length + d.length) : ((T ++ (d ++ p :: q :: r)).set k a).set (k + 1) b = T ++ ((d ++ [a]) ++ (b :: r)) := by
  subst hk
  apply List.ext_getElem?
  intro i
  simp only [List.getElem?_set, List.getElem?_append, List.length_append, List.length_cons, List.length_set, List.length_nil, List.getElem?_cons]
  grind
end Go.Proofs.YtdbiillompeclaaGreatDoor.X

end
section
set_option linter.unusedVariables false
set_option linter.unusedSimpArgs false
namespace Go.Sx
open Go Go.RowKit Go.Proofs.YtdbiillompeclaaGreatDoor.X
/-- what undoes a row -/
def invL (l : List Prim) : List Prim := l.reverse.map Prim.flip
theorem swapR_app : ∀ (a : List Prim) {b m s : List Prim}, swapR (a ++ b) m s = (swapR a m s).bind fun r => swapR b r.1 r.2
  | [], b, m, s => rfl
  | p :: a, b, m, s => by
    rw [List.cons_append, swapR, swapR]
    cases past1 p m with
    | none => rfl
    | some r => simp only [Option.bind_some]; exact swapR_app a
theorem swapR_fst : ∀ (a : List Prim) {m s s' : List Prim}, (swapR a m s).map (·.1) = (swapR a m s').map (·.1)
  | [], m, s, s' => rfl
  | p :: a, m, s, s' => by
    rw [swapR, swapR]
    cases past1 p m with
    | none => rfl
    | some r => simp only [Option.bind_some]; exact swapR_fst a
/-- what a row m is behind a row l -/
def reb (l m : List Prim) : Option (List Prim) := (swapL (invL l) m).map (·.1)
theorem reb_eq (l m : List Prim) : reb l m = (swapR (l.map Prim.flip) m []).map (·.1) := by
  unfold reb swapL invL
  rw [← List.map_reverse, List.reverse_reverse]
theorem reb_nil (m : List Prim) : reb [] m = some m := by rw [reb_eq]; rfl
theorem reb_app (a b m : List Prim) : reb (a ++ b) m = (reb a m).bind (reb b) := by
  rw [reb_eq, reb_eq, List.map_append, swapR_app]
  cases h : swapR (a.map Prim.flip) m [] with
  | none => rfl
  | some r =>
    simp only [Option.bind_some, Option.map_some]
    rw [reb_eq]
    exact swapR_fst _
def rebT (l m : List Prim) : List Prim × Bool := match reb l m with
  | some r => (r, true)
  | none => ([], false)
theorem swT_reb {l m f s : List Prim} {b : Bool} (h : (f, s, b) = swT (invL l) m) : (f, b) = rebT l m := by
  unfold swT at h
  unfold rebT reb
  split at h <;> rename_i e <;> rw [e] <;> cases h <;> rfl
theorem rebT_true {l m r : List Prim} (h : (r, true) = rebT l m) : reb l m = some r := by
  unfold rebT at h
  split at h
  · rename_i e; cases h; exact e
  · cases h
theorem rebT_false {l m r : List Prim} (h : (r, false) = rebT l m) : reb l m = none ∧ r = [] := by
  unfold rebT at h
  split at h
  · cases h
  · rename_i e; cases h; exact ⟨e, rfl⟩
theorem flipFit {p : Prim} (h : p.fit) : p.flip.fit := by
  obtain ⟨h1, h2, h3, h4, h5, h6⟩ := h
  unfold Prim.flip
  split
  · exact ⟨h2, h1, h3, h4, h6, h5⟩
  · split
    · exact ⟨h1, h2, h3, h4, h5, h6⟩
    · split <;> first | exact ⟨h1, h2, h4, h3, h5, h6⟩ | exact ⟨h1, h2, h3, h4, h5, h6⟩
theorem invL_fit {l : List Prim} (h : ∀ x ∈ l, x.fit) : ∀ x ∈ invL l, x.fit := by
  intro x hx
  unfold invL at hx
  rw [List.mem_map] at hx
  obtain ⟨y, hy, rfl⟩ := hx
  exact flipFit (h y (List.mem_reverse.1 hy))
theorem invL_len (l : List Prim) : (invL l).length = l.length := by simp [invL]
/-- what undoes the last k -/
def invP (l : List Prim) (k : Nat) : List Prim := (l.reverse.take k).map Prim.flip
theorem invP_len (l : List Prim) {k : Nat} (h : k ≤ l.length) : (invP l k).length = k := by simp [invP]; omega
theorem invP_all (l : List Prim) : invP l l.length = invL l := by
  unfold invP invL
  rw [List.take_of_length_le (by simp)]
theorem invP_step {l : List Prim} {u j : Nat} (h : u + j + 1 = l.length) : invP l (j + 1) = invP l j ++ [(l[u]'(by omega)).flip] := by
  unfold invP
  have hj : j < l.reverse.length := by simp; omega
  rw [List.take_succ_eq_append_getElem hj, List.map_append, List.getElem_reverse]
  congr 3
  simp only [List.map_cons, List.map_nil, List.cons.injEq, and_true]
  congr 2
  omega
/-! ### rows in a ring -/
abbrev Ent := List Prim × Option Addr × Nat
def Ent.v (e : Ent) : Value := .slice e.2.1 e.1.length e.2.2
structure Ring where
  ver : Int
  many : Int
  rg : List Ent
def Ring.cells (r : Ring) : List Value := .int .i64 r.ver :: .int .i64 r.many :: r.rg.map Ent.v
def ringA (l : List Ent) : Asn where
  p M w := ∀ e ∈ l, (slA e.2.1 e.1).p M w
  st := fun M M' w w' h hb hm hs e he => (slA e.2.1 e.1).st M M' w w' (h e he) hb hm hs
def least (V n : Nat) : Nat := V + (n - 64)
structure RI (V : Nat) (rows : List (List Prim)) (r : Ring) : Prop where
  ver : r.ver = ((V + rows.length : Nat) : Int)
  many : r.many = ((min rows.length 64 : Nat) : Int)
  len : r.rg.length = 64
  row : ∀ i, (hi : i < rows.length) → rows.length ≤ i + 64 → ∃ A c, r.rg[(V + i + 1) % 64]? = some (rows[i], A, c)
  sm : ∀ e ∈ r.rg, e.1.length ≤ 2000000 ∧ ∀ x ∈ e.1, x.fit
def Ring.zero (V : Nat) : Ring := ⟨V, 0, List.replicate 64 ([], none, 0)⟩
theorem RI.zero (V : Nat) : RI V [] (Ring.zero V) := by
  refine ⟨rfl, rfl, rfl, fun i hi => by simp at hi, fun e he => ?_⟩
  have := List.eq_of_mem_replicate he
  subst this
  simp
def Ring.add (r : Ring) (j : Nat) (e : Ent) : Ring := ⟨r.ver + 1, min (r.many + 1) 64, r.rg.set j e⟩
theorem RI.add {V : Nat} {rows : List (List Prim)} {r : Ring} (h : RI V rows r) {l : List Prim} {A : Option Addr} {c : Nat} (hl : l.length ≤ 2000000) (hf : ∀ x ∈ l, x.fit) :
    RI V (rows ++ [l]) (r.add ((V + rows.length + 1) % 64) (l, A, c)) := by
  have h64 := h.len
  refine ⟨?_, ?_, ?_, ?_, ?_⟩
  · simp only [Ring.add, h.ver, List.length_append, List.length_singleton]; omega
  · simp only [Ring.add, h.many, List.length_append, List.length_singleton]; omega
  · simp only [Ring.add, List.length_set, h64]
  · intro i hi hle
    rw [List.length_append, List.length_singleton] at hi hle
    simp only [Ring.add]
    rcases Nat.lt_or_eq_of_le (Nat.le_of_lt_succ hi) with hlt | rfl
    · obtain ⟨A', c', e⟩ := h.row i hlt (by omega)
      refine ⟨A', c', ?_⟩
      rw [List.getElem?_set_ne (by omega), e, List.getElem_append_left hlt]
    · refine ⟨A, c, ?_⟩
      rw [List.getElem?_set_self (by omega), List.getElem_append_right (Nat.le_refl _)]
      simp
  · intro e he
    rcases List.mem_or_eq_of_mem_set he with he | rfl
    · exact h.sm e he
    · exact ⟨hl, hf⟩
def known (V n : Nat) (z : Int) : Bool := decide (((least V n : Nat) : Int) ≤ z) && decide (z ≤ ((V + n : Nat) : Int))
theorem known_yes {V n : Nat} {z : Int} (h : known V n z = true) : ∃ q, z = ((V + q : Nat) : Int) ∧ q ≤ n ∧ n ≤ q + 64 := by
  unfold known least at h
  simp only [Bool.and_eq_true, decide_eq_true_eq] at h
  exact ⟨z.toNat - V, by omega, by omega, by omega⟩
def atP (V : Nat) (rows : List (List Prim)) (z : Int) : List Prim × Bool := if ((least V rows.length : Nat) : Int) < z ∧ z ≤ ((V + rows.length : Nat) : Int) then (rows.getD (z.toNat - V - 1) [], true) else ([], false)
theorem atP_no {V : Nat} {rows : List (List Prim)} {z : Int} (h : (decide (z ≤ ((least V rows.length : Nat) : Int)) || decide (((V + rows.length : Nat) : Int) < z)) = true) : atP V rows z = ([], false) := by
  simp only [Bool.or_eq_true, decide_eq_true_eq] at h
  unfold atP
  rw [if_neg (by omega)]
theorem atP_yes {V : Nat} {rows : List (List Prim)} {z : Int} (h : (decide (z ≤ ((least V rows.length : Nat) : Int)) || decide (((V + rows.length : Nat) : Int) < z)) = false) :
    ∃ i, z = ((V + i + 1 : Nat) : Int) ∧ ∃ (hi : i < rows.length), rows.length ≤ i + 64 ∧ atP V rows z = (rows[i], true) := by
  simp only [Bool.or_eq_false_iff, decide_eq_false_iff_not] at h
  have hl : V ≤ least V rows.length := by unfold least; omega
  have hl2 : V + rows.length ≤ least V rows.length + 64 := by unfold least; omega
  refine ⟨z.toNat - V - 1, by omega, by omega, by omega, ?_⟩
  unfold atP
  rw [if_pos (by omega), ← List.getElem_eq_getD]
/-- all rows behind a version, put together: those up to the j-th one -/
def outP (rows : List (List Prim)) (q j : Nat) : List Prim := ((rows.drop q).take j).flatten
theorem outP_step {rows : List (List Prim)} {q j : Nat} (h : q + j < rows.length) : outP rows q (j + 1) = outP rows q j ++ rows[q + j] := by
  unfold outP
  have hj : j < (rows.drop q).length := by simp; omega
  rw [List.take_succ_eq_append_getElem hj, List.flatten_append, List.getElem_drop]
  simp
theorem outP_all {rows : List (List Prim)} {q j : Nat} (h : rows.length ≤ q + j) : outP rows q j = (rows.drop q).flatten := by
  unfold outP
  rw [List.take_of_length_le (by simp; omega)]
theorem outP_le (rows : List (List Prim)) (q j : Nat) : (outP rows q j).length ≤ rows.flatten.length := by
  unfold outP
  have h : rows.flatten = (rows.take q).flatten ++ (((rows.drop q).take j).flatten ++ ((rows.drop q).drop j).flatten) := by
    rw [← List.flatten_append, List.take_append_drop, ← List.flatten_append, List.take_append_drop]
  rw [h, List.length_append, List.length_append]
  omega
def sinceT (V : Nat) (rows : List (List Prim)) (z : Int) : List Prim × Int := if known V rows.length z = true then ((rows.drop (z.toNat - V)).flatten, 0) else ([], 150)
theorem sinceT_no {V : Nat} {rows : List (List Prim)} {z : Int} (h : known V rows.length z = false) : sinceT V rows z = ([], 150) := by unfold sinceT; rw [h]; rfl
theorem sinceT_yes {V q : Nat} {rows : List (List Prim)} (h : known V rows.length ((V + q : Nat) : Int) = true) : sinceT V rows ((V + q : Nat) : Int) = ((rows.drop q).flatten, 0) := by
  unfold sinceT
  rw [if_pos h, Int.toNat_natCast, show V + q - V = q by omega]
def prebT (V : Nat) (rows : List (List Prim)) (z : Int) (m : List Prim) : List Prim × Int :=
  if known V rows.length z = true then (match reb (rows.drop (z.toNat - V)).flatten m with | some r => (r, 0) | none => ([], 151)) else ([], 150)
theorem prebT_no {V : Nat} {rows : List (List Prim)} {z : Int} {m : List Prim} (h : known V rows.length z = false) : prebT V rows z m = ([], 150) := by unfold prebT; rw [h]; rfl
theorem prebT_yes {V q : Nat} {rows : List (List Prim)} {m : List Prim} (h : known V rows.length ((V + q : Nat) : Int) = true) : prebT V rows ((V + q : Nat) : Int) m = match reb (rows.drop q).flatten m with | some r => (r, 0) | none => ([], 151) := by
  unfold prebT
  rw [if_pos h, Int.toNat_natCast, show V + q - V = q by omega]
theorem swapR_ok : ∀ (a : List Prim) {m s f t : List Prim}, swapR a m s = some (f, t) → (∀ x ∈ a, x.fit) → (∀ x ∈ m, x.fit) → f.length = m.length ∧ ∀ x ∈ f, x.fit
  | [], m, s, f, t, h, _, hm => by
    rw [swapR] at h; cases h; exact ⟨rfl, hm⟩
  | p :: a, m, s, f, t, h, ha, hm => by
    rw [swapR, Option.bind_eq_some_iff] at h
    obtain ⟨⟨f1, q⟩, h1, h2⟩ := h
    obtain ⟨k1, k2, k3⟩ := past1_ok h1 (ha p List.mem_cons_self) hm
    obtain ⟨k4, k5⟩ := swapR_ok a h2 (fun x hx => ha x (List.mem_cons_of_mem _ hx)) k3
    exact ⟨k4.trans k1, k5⟩
theorem reb_ok {l m f : List Prim} (h : reb l m = some f) (hl : ∀ x ∈ l, x.fit) (hm : ∀ x ∈ m, x.fit) : f.length = m.length ∧ ∀ x ∈ f, x.fit := by
  rw [reb_eq, Option.map_eq_some_iff] at h
  obtain ⟨⟨f', t⟩, h1, rfl⟩ := h
  refine swapR_ok _ h1 (fun x hx => ?_) hm
  rw [List.mem_map] at hx
  obtain ⟨y, hy, rfl⟩ := hx
  exact flipFit (hl y hy)
/-- j rows behind q are through -/
structure RbI (rows : List (List Prim)) (q j : Nat) (m f : List Prim) : Prop where
  eq : reb (rows.drop q).flatten m = reb (rows.drop (q + j)).flatten f
  len : f.length = m.length
  fit : ∀ x ∈ f, x.fit
theorem RbI.start {rows : List (List Prim)} {q : Nat} {m : List Prim} (hm : ∀ x ∈ m, x.fit) : RbI rows q 0 m m := ⟨rfl, rfl, hm⟩
theorem RbI.split {rows : List (List Prim)} {q j : Nat} {m f : List Prim} (h : RbI rows q j m f) (hk : q + j < rows.length) : reb (rows.drop q).flatten m = (reb rows[q + j] f).bind (reb (rows.drop (q + (j + 1))).flatten) := by
  rw [h.eq, List.drop_eq_getElem_cons hk, List.flatten_cons, reb_app]
  rfl
theorem RbI.step {rows : List (List Prim)} {q j : Nat} {m f g : List Prim} (h : RbI rows q j m f) (hk : q + j < rows.length) (hf : ∀ x ∈ rows[q + j], x.fit) (hr : (g, true) = rebT rows[q + j] f) : RbI rows q (j + 1) m g := by
  have h1 := rebT_true hr
  obtain ⟨k1, k2⟩ := reb_ok h1 hf h.fit
  exact ⟨by rw [h.split hk, h1]; rfl, k1.trans h.len, k2⟩
theorem RbI.stop {rows : List (List Prim)} {q j : Nat} {m f g : List Prim} (h : RbI rows q j m f) (hk : q + j < rows.length) (hr : (g, false) = rebT rows[q + j] f) : reb (rows.drop q).flatten m = none := by
  rw [h.split hk, (rebT_false hr).1]; rfl
theorem RbI.done {rows : List (List Prim)} {q j : Nat} {m f : List Prim} (h : RbI rows q j m f) (hk : rows.length ≤ q + j) : reb (rows.drop q).flatten m = some f := by
  rw [h.eq, List.drop_eq_nil_of_le hk]; exact reb_nil f
theorem ring_one (r : Ring) : r.cells.all Value.oneCell' = true := by
  simp [Ring.cells, Ent.v, Value.oneCell']
/-! ### the reference -/
def rowsT (V : Nat) (rows : List (List Prim)) (z : Int) : List (List Prim) × Bool := if known V rows.length z = true then (rows.drop (z.toNat - V), true) else ([], false)
theorem known_no' {V n : Nat} {z : Int} (h : (decide (z < ((least V n : Nat) : Int)) || decide (((V + n : Nat) : Int) < z)) = true) : known V n z = false := by
  simp only [Bool.or_eq_true, decide_eq_true_eq] at h
  unfold known
  rw [Bool.and_eq_false_iff, decide_eq_false_iff_not, decide_eq_false_iff_not]
  omega
theorem known_yes' {V n : Nat} {z : Int} (h : (decide (z < ((least V n : Nat) : Int)) || decide (((V + n : Nat) : Int) < z)) = false) : known V n z = true := by
  simp only [Bool.or_eq_false_iff, decide_eq_false_iff_not] at h
  unfold known
  rw [Bool.and_eq_true, decide_eq_true_eq, decide_eq_true_eq]
  omega
theorem rowsT_no {V : Nat} {rows : List (List Prim)} {z : Int} (h : known V rows.length z = false) : rowsT V rows z = ([], false) := by unfold rowsT; rw [h]; rfl
theorem rowsT_yes {V q : Nat} {rows : List (List Prim)} (h : known V rows.length ((V + q : Nat) : Int) = true) : rowsT V rows ((V + q : Nat) : Int) = (rows.drop q, true) := by
  unfold rowsT
  rw [if_pos h, Int.toNat_natCast, show V + q - V = q by omega]
theorem rowsT_false {V : Nat} {rows rr : List (List Prim)} {z : Int} (h : (rr, false) = rowsT V rows z) : known V rows.length z = false := by
  cases hk : known V rows.length z with
  | false => rfl
  | true => unfold rowsT at h; rw [if_pos hk] at h; cases h
theorem rowsT_true {V : Nat} {rows rr : List (List Prim)} {z : Int} (h : (rr, true) = rowsT V rows z) : ∃ q, z = ((V + q : Nat) : Int) ∧ q ≤ rows.length ∧ rr = rows.drop q ∧ known V rows.length z = true := by
  cases hk : known V rows.length z with
  | false => rw [rowsT_no hk] at h; cases h
  | true =>
    obtain ⟨q, rfl, h1, h2⟩ := known_yes hk
    rw [rowsT_yes hk] at h
    cases h
    exact ⟨q, rfl, h1, rfl, rfl⟩
theorem sinceT_err {V : Nat} {rows : List (List Prim)} {l : List Prim} {e z : Int} (h : (l, e) = sinceT V rows z) (he : ¬ e = 0) : known V rows.length z = false ∧ e = 150 := by
  cases hk : known V rows.length z with
  | false => rw [sinceT_no hk] at h; cases h; exact ⟨rfl, rfl⟩
  | true => unfold sinceT at h; rw [if_pos hk] at h; cases h; exact absurd rfl he
theorem sinceT_ok {V : Nat} {rows : List (List Prim)} {l : List Prim} {z : Int} (h : (l, 0) = sinceT V rows z) : ∃ q, z = ((V + q : Nat) : Int) ∧ l = (rows.drop q).flatten ∧ known V rows.length z = true := by
  cases hk : known V rows.length z with
  | false => rw [sinceT_no hk] at h; cases h
  | true =>
    obtain ⟨q, rfl, h1, h2⟩ := known_yes hk
    rw [sinceT_yes hk] at h
    cases h
    exact ⟨q, rfl, rfl, rfl⟩
theorem prebT_reb {V q : Nat} {rows : List (List Prim)} {m g : List Prim} {b : Bool} (h : known V rows.length ((V + q : Nat) : Int) = true) (hr : (g, b) = rebT (rows.drop q).flatten m) :
    prebT V rows ((V + q : Nat) : Int) m = if b = true then (g, 0) else ([], 151) := by
  rw [prebT_yes h]
  cases b with
  | true => rw [rebT_true hr]; rfl
  | false => rw [(rebT_false hr).1]; rfl
theorem flat_fit {rows : List (List Prim)} (h : ∀ l ∈ rows, l.length ≤ 2000000 ∧ ∀ x ∈ l, x.fit) (q : Nat) : ∀ x ∈ (rows.drop q).flatten, x.fit := by
  intro x hx
  rw [List.mem_flatten] at hx
  obtain ⟨l, hl, hx⟩ := hx
  exact (h l (List.mem_of_mem_drop hl)).2 x hx
theorem flat_len (rows : List (List Prim)) (q : Nat) : (rows.drop q).flatten.length ≤ rows.flatten.length := by
  have := outP_le rows q rows.length
  rwa [outP_all (by omega)] at this
def fewT (rows : List (List Prim)) (l : List Prim) : Bool := (decide (((many l + (rows.map many).sum : Nat) : Int) ≤ 6000) && decide (((l.length + (rows.map List.length).sum : Nat) : Int) ≤ 60)) && decide ((rows.length : Int) ≤ 100)
theorem fewT_yes {rows : List (List Prim)} {l : List Prim} (h : fewT rows l = true) : many l + (rows.map many).sum ≤ 6000 ∧ l.length + (rows.map List.length).sum ≤ 60 ∧ rows.length ≤ 100 := by
  unfold fewT at h
  simp only [Bool.and_eq_true, decide_eq_true_eq] at h
  omega
theorem sum_take_succ {α : Type} {f : α → Nat} {l : List α} {k : Nat} (h : k < l.length) : ((l.take (k + 1)).map f).sum = ((l.take k).map f).sum + f l[k] := by
  rw [List.take_succ_eq_append_getElem h, List.map_append, List.sum_append]
  simp only [List.map_cons, List.map_nil, List.sum_cons, List.sum_nil, Nat.add_zero]
theorem sum_take_le {α : Type} (f : α → Nat) (l : List α) (k : Nat) : ((l.take k).map f).sum ≤ (l.map f).sum := by
  have h : l.map f = (l.take k).map f ++ (l.drop k).map f := by rw [← List.map_append, List.take_append_drop]
  rw [h, List.sum_append]
  omega
theorem atP_case {V : Nat} {rows : List (List Prim)} {z : Int} {l : List Prim} {e : Bool} (h : atP V rows z = (l, e)) :
    ((decide (((least V rows.length : Nat) : Int) < z) && decide (z ≤ ((V + rows.length : Nat) : Int))) = false ∧ l = [] ∧ e = false) ∨
    ((decide (((least V rows.length : Nat) : Int) < z) && decide (z ≤ ((V + rows.length : Nat) : Int))) = true ∧ e = true ∧ ∃ (i : Nat) (hi : i < rows.length), z = ((V + i + 1 : Nat) : Int) ∧ l = rows[i]) := by
  unfold atP at h
  split at h
  · rename_i hc
    right
    have hl : V ≤ least V rows.length := by unfold least; omega
    cases h
    refine ⟨by rw [Bool.and_eq_true, decide_eq_true_eq, decide_eq_true_eq]; exact hc, rfl, z.toNat - V - 1, by omega, by omega, ?_⟩
    exact (List.getElem_eq_getD []).symm
  · rename_i hc
    left
    cases h
    refine ⟨?_, rfl, rfl⟩
    rw [Bool.and_eq_false_iff, decide_eq_false_iff_not, decide_eq_false_iff_not]
    omega
end Go.Sx

end
section
set_option linter.unusedVariables false
set_option linter.unusedSimpArgs false
namespace Go.Sx
open Go Go.RowKit Go.Proofs
section
variable {ro : Option Nat} {P : Program} {M0 F0 : Nat → Prop} {w0 : World} {n : Nm} {σ : List (Nat × Value)} {Ξ : List Xsn} {Γ : List Asn} {d : Nat} {ty : TypeId} {pos : String} {af : Array Edge}
variable {ops : Array Oper} {Q : Exit → Act → World → Prop} {S S' : Act → World → Prop}
theorem p_remn {T : World → Prop} {x y : Operand} {t t' : TypeId} {k b : Int} (u v : Nat) (hu : k = (u : Int)) (hv : b = ((v + 1 : Nat) : Int)) (hx : ev σ x = some (.int .i64 k)) (hy : ev σ y = some (.int .i64 b)) :
    Pu P n σ T ⟨some d, .binOp .rem t x y t', ty, pos, af, none⟩ (.int .i64 ((u % (v + 1) : Nat) : Int)) :=
  fun a hs w _ => by
    subst hu hv
    have e : (u : Int).tmod ((v + 1 : Nat) : Int) = ((u % (v + 1) : Nat) : Int) := by
      rw [Int.tmod_eq_emod_of_nonneg (by omega)]; norm_cast
    have h0 : ¬ ((v + 1 : Nat) : Int) = 0 := by omega
    have h : Op.intDiv .rem .i64 (u : Int) ((v + 1 : Nat) : Int) = pure (.int .i64 ((u % (v + 1) : Nat) : Int)) := by
      unfold Op.intDiv
      rw [if_neg h0, e]
    simp [-Int.natCast_add, execOp, hs.ev hx, hs.ev hy, eqGuard_rem, binOp_rem, h]
theorem p_max {T : World → Prop} {x y : Operand} {t t' : TypeId} {k b : Int} (hx : ev σ x = some (.int .i64 k)) (hy : ev σ y = some (.int .i64 b)) :
    Pu P n σ T ⟨some d, .call ⟨.builtin .max, #[x, y], #[t, t']⟩, ty, pos, af, none⟩ (.int .i64 (max k b)) :=
  fun a hs w _ => by
    simp only [execOp, resolve, invoke, builtin, hs.ev hx, hs.ev hy, Builtin.max_, Builtin.max2]
    simp [hs.ev hx, hs.ev hy, Builtin.max2]
    split <;> omega
theorem p_min {T : World → Prop} {x y : Operand} {t t' : TypeId} {k b : Int} (hx : ev σ x = some (.int .i64 k)) (hy : ev σ y = some (.int .i64 b)) :
    Pu P n σ T ⟨some d, .call ⟨.builtin .min, #[x, y], #[t, t']⟩, ty, pos, af, none⟩ (.int .i64 (min k b)) :=
  fun a hs w _ => by
    simp only [execOp, resolve, invoke, builtin, hs.ev hx, hs.ev hy, Builtin.min_, Builtin.min2]
    simp [hs.ev hx, hs.ev hy, Builtin.min2]
    split <;> omega
theorem nilP {y : Option Addr × Nat} {i : Nat} {c : Code} (hi : At (nilA y) i Γ) (k : (y.1 = none → y.2 = 0) → TrC ro P Q (St M0 F0 w0 n σ Ξ Γ) c) : TrC ro P Q (St M0 F0 w0 n σ Ξ Γ) c := fun a w hS => by
  obtain ⟨hs, Fs, hh⟩ := hS
  exact k (hh.ga _ (List.mem_of_getElem? hi.get)) a w ⟨hs, Fs, hh⟩
theorem nilQ {y : Option Addr × Nat} (h : y.1 = none → y.2 = 0) {a : Act} {w : World} (hS : St M0 F0 w0 n σ Ξ Γ a w) : St M0 F0 w0 n σ Ξ (nilA y :: Γ) a w := by
  obtain ⟨hs, Fs, hh⟩ := hS
  refine ⟨hs, Fs, { hh with ga := fun p hp => ?_ }⟩
  rcases List.mem_cons.1 hp with rfl | hp
  · exact h
  · exact hh.ga p hp
theorem p_ptrnil {T : World → Prop} {x y : Operand} {t e t' : TypeId} {a : Addr} (ht : P.underlying t = some (.pointer e)) (hx : ev σ x = some (.pointer (some a))) (hy : ev σ y = some (.pointer none)) :
    Pu P n σ T ⟨some d, .binOp .eql t x y t', ty, pos, af, none⟩ (.bool false) := fun b hs w _ => by
  have h1 : (binOp .eql t (.pointer (some a)) (.pointer none)).run P w = .ok (.bool false) w := by
    have h0 : P.pointee t = e := by unfold Program.pointee; rw [ht]
    simp [binOp, run_equal_pointer_nil w t (some a) (by rw [h0]; exact ht)]
  simp [execOp, hs.ev hx, hs.ev hy, eqGuard_at_pointer, h1]
theorem p_ptrnn {T : World → Prop} {x y : Operand} {t e t' : TypeId} {a : Addr} (ht : P.underlying t = some (.pointer e)) (hx : ev σ x = some (.pointer (some a))) (hy : ev σ y = some (.pointer none)) :
    Pu P n σ T ⟨some d, .binOp .neq t x y t', ty, pos, af, none⟩ (.bool true) := fun b hs w _ => by
  have h1 : (binOp .neq t (.pointer (some a)) (.pointer none)).run P w = .ok (.bool true) w := by
    have h0 : P.pointee t = e := by unfold Program.pointee; rw [ht]
    simp [binOp, run_equal_pointer_nil w t (some a) (by rw [h0]; exact ht)]
  simp [execOp, hs.ev hx, hs.ev hy, eqGuard_at_pointer, h1]
/-! rings -/
theorem at_ring {r : Ring} {j : Nat} {e : Ent} (h : r.rg[j]? = some e) : At (Ent.v e) (0 + 2 + j * 1) r.cells := by
  refine At.of_get ?_
  rw [show 0 + 2 + j * 1 = j + 1 + 1 by omega]
  unfold Ring.cells
  simp [h]
theorem put_all {α : Type} : ∀ {vs l : List α}, vs.length = l.length → Put 0 vs l vs
  | [], [], _ => .d
  | v :: vs, x :: l, h => .t (put_all (by simpa using h))
  | [], _ :: _, h => by simp at h
  | _ :: _, [], h => by simp at h
theorem put_set {α : Type} {v : α} : ∀ {l : List α} {j : Nat}, j < l.length → Put j [v] l (l.set j v)
  | [], _, h => by simp at h
  | x :: l, 0, _ => .t .d
  | x :: l, j + 1, h => .s (put_set (by simpa using h))
theorem put_ring {r : Ring} {j : Nat} {e : Ent} (h : j < r.rg.length) : Put (0 + 2 + j * 1) [Ent.v e] r.cells (Ring.cells ⟨r.ver, r.many, r.rg.set j e⟩) := by
  rw [show 0 + 2 + j * 1 = j + 1 + 1 by omega]
  unfold Ring.cells
  simp only [List.map_set]
  exact .s (.s (put_set (by simpa using h)))
theorem Hp.wk1 {Fs : List (Nat → Prop)} {w : World} {Γ' : List Asn} (hh : Hp M0 F0 w0 Ξ Γ Fs w) (h : ∀ p ∈ Γ', p.p (fun b => M0 b ∨ own Fs b) w) : Hp M0 F0 w0 Ξ Γ' Fs w := { hh with ga := h }
theorem ringGet {rg : List Ent} {i j : Nat} {e : Ent} {a : Act} {w : World} (hi : At (ringA rg) i Γ) (hj : rg[j]? = some e) (h : St M0 F0 w0 n σ Ξ Γ a w) : St M0 F0 w0 n σ Ξ (slA e.2.1 e.1 :: Γ) a w := by
  obtain ⟨hs, Fs, hh⟩ := h
  refine ⟨hs, Fs, hh.wk1 fun p hp => ?_⟩
  rcases List.mem_cons.1 hp with rfl | hp
  · exact hh.ga _ (List.mem_of_getElem? hi.get) e (List.mem_of_getElem? hj)
  · exact hh.ga p hp
theorem ringSet {rg : List Ent} {i k j : Nat} {e : Ent} {a : Act} {w : World} (hi : At (ringA rg) i Γ) (hk : At (slA e.2.1 e.1) k Γ) (h : St M0 F0 w0 n σ Ξ Γ a w) : St M0 F0 w0 n σ Ξ (ringA (rg.set j e) :: Γ) a w := by
  obtain ⟨hs, Fs, hh⟩ := h
  refine ⟨hs, Fs, hh.wk1 fun p hp => ?_⟩
  rcases List.mem_cons.1 hp with rfl | hp
  · intro x hx
    rcases List.mem_or_eq_of_mem_set hx with hx | rfl
    · exact hh.ga _ (List.mem_of_getElem? hi.get) x hx
    · exact hh.ga _ (List.mem_of_getElem? hk.get)
  · exact hh.ga p hp
theorem ringNil {V : Nat} {a : Act} {w : World} (h : St M0 F0 w0 n σ Ξ Γ a w) : St M0 F0 w0 n σ Ξ (ringA (Ring.zero V).rg :: Γ) a w := by
  have h := nilSl (α := Prim) h
  obtain ⟨hs, Fs, hh⟩ := h
  refine ⟨hs, Fs, hh.wk1 fun p hp => ?_⟩
  rcases List.mem_cons.1 hp with rfl | hp
  · intro x hx
    have := List.eq_of_mem_replicate hx
    subst this
    exact hh.ga _ (List.mem_cons_self ..)
  · exact hh.ga p (List.mem_cons_of_mem _ hp)
end
end Go.Sx

end
