/- OWN WORK: a part of the proof of a law of the seat YtjeampaghmcefaaGreatDoor: what the functions compute. -/
import Derived.Test.YtjeampaghmcefaaGreatDoorXTy
import Derived.Test.YtjeampaghmcefaaGreatDoorXSx2
import Derived.Lib.IndexAny
import Derived.Lib.SlTrimSet
section
set_option linter.unusedVariables false
set_option linter.unusedSimpArgs false
namespace Go.Sx
open Go

def e0 : ByteArray := ⟨#[]⟩
def nameB (b : UInt8) : Bool := (decide (97 ≤ b.toNat) && decide (b.toNat ≤ 122)) || (decide (48 ≤ b.toNat) && decide (b.toNat ≤ 57)) || decide (b.toNat = 46) || decide (b.toNat = 45) || decide (b.toNat = 95) || decide (b.toNat = 47)
def nameOk (s : ByteArray) : Bool := decide (1 ≤ (s.size : Int)) && decide ((s.size : Int) ≤ 24) && (ofB s).all nameB
def lineOk (s : ByteArray) : Bool := decide ((s.size : Int) ≤ 60) && !(ofB s).contains 10
def Prim.bare (p : Prim) : Bool := decide (p.pos = 0) && decide ((p.old.length : Int) = 0) && decide ((p.new.length : Int) = 0)
def Prim.right (p : Prim) : Bool :=
  nameOk p.name && (if p.kind = 0 then decide (p.to = ⟨#[]⟩) && decide (0 ≤ p.pos) && decide (p.pos ≤ 1048576) && p.old.all lineOk && p.new.all lineOk && !decide (p.old = p.new)
    else if p.kind = 3 then p.bare && nameOk p.to && !decide (p.to = p.name) else p.bare && decide (p.to = ⟨#[]⟩) && (decide (p.kind = 1) || decide (p.kind = 2)))
def Prim.zero : Prim := ⟨0, ⟨#[]⟩, ⟨#[]⟩, 0, [], []⟩
def Prim.flip (p : Prim) : Prim := if p.kind = 0 then { p with old := p.new, new := p.old } else if p.kind = 1 ∨ p.kind = 2 then { p with kind := 3 - p.kind } else if p.kind = 3 then { p with name := p.to, to := p.name } else p
def Prim.names (p : Prim) : List ByteArray := if p.kind = 3 then [p.name, p.to] else [p.name]
def Prim.meets (p q : Prim) : Bool := p.names.any fun a => q.names.any fun b => decide (b = a)
structure Prim.fit (p : Prim) : Prop where
  o : p.old.length ≤ 2000000
  n : p.new.length ≤ 2000000
  a : p.name.size ≤ 2000000
  b : p.to.size ≤ 2000000
  os : ∀ s ∈ p.old, s.size ≤ 2000000
  ns : ∀ s ∈ p.new, s.size ≤ 2000000
def hunks (p q : Prim) : Prim × Prim × Bool :=
  if p.pos + p.new.length < q.pos then ({ q with pos := q.pos - ((p.new.length : Int) - p.old.length) }, p, true)
  else if q.pos + q.old.length < p.pos then (q, { p with pos := p.pos + ((q.new.length : Int) - q.old.length) }, true)
  else (p, q, false)
def swapped (p q : Prim) : Prim × Prim × Bool :=
  if p.kind = 0 ∧ q.kind = 0 then if p.name = q.name then hunks p q else (q, p, true)
  else if p.kind = 0 ∧ q.kind = 3 then if p.name = q.name then (q, { p with name := q.to }, true) else (q, p, !decide (p.name = q.to))
  else if p.kind = 3 ∧ q.kind = 0 then if p.to = q.name then ({ q with name := p.name }, p, true) else (q, p, !decide (p.name = q.name))
  else (q, p, !p.meets q)
def swap (p q : Prim) : Prim × Prim × Bool :=
  if p.right && q.right && (swapped p q).2.2 && (swapped p q).1.right && (swapped p q).2.1.right then ((swapped p q).1, (swapped p q).2.1, true) else (.zero, .zero, false)
def refTwo (p q : Prim) : Prim × Prim × Bool :=
  if p.kind = 0 ∧ q.kind = 0 ∧ p.name = q.name then hunks p q
  else if p.kind = 0 ∧ q.kind = 3 ∧ p.name = q.name then (q, { p with name := q.to }, true)
  else if p.kind = 3 ∧ q.kind = 0 ∧ p.to = q.name then ({ q with name := p.name }, p, true)
  else if p.kind = 0 ∧ q.kind = 0 then (q, p, true) else (q, p, !p.meets q)
def refSwap (p q : Prim) : Prim × Prim × Bool :=
  if p.right && q.right && (refTwo p q).2.2 && (refTwo p q).1.right && (refTwo p q).2.1.right then ((refTwo p q).1, (refTwo p q).2.1, true) else (.zero, .zero, false)
def refRight (p : Prim) : Bool :=
  if (!nameOk p.name || decide (p.kind < 0) || decide (3 < p.kind)) = true then false
  else if p.kind = 0 then (if (!decide (p.to = ⟨#[]⟩) || decide (p.pos < 0) || decide (1048576 < p.pos)) = true then false else p.old.all lineOk && p.new.all lineOk && !decide (p.old = p.new))
  else if (!decide (p.pos = 0) || decide (0 < (p.old.length : Int)) || decide (0 < (p.new.length : Int))) = true then false
  else if p.kind = 3 then nameOk p.to && !decide (p.to = p.name) else decide (p.to = ⟨#[]⟩)
theorem refRight_eq (p : Prim) : refRight p = p.right := by
  unfold refRight Prim.right Prim.bare
  by_cases hn : nameOk p.name = true
  · by_cases h0 : p.kind = 0
    · have e1 : decide (p.pos < 0) = !decide (0 ≤ p.pos) := by
        rw [Bool.eq_iff_iff]; simp
      have e2 : decide (1048576 < p.pos) = !decide (p.pos ≤ 1048576) := by
        rw [Bool.eq_iff_iff]; simp
      rw [e1, e2, if_pos h0, if_pos h0]
      simp only [hn, h0]
      cases decide (p.to = ⟨#[]⟩) <;> cases decide (0 ≤ p.pos) <;> cases decide (p.pos ≤ 1048576) <;> simp
    · by_cases hb : p.pos = 0 ∧ p.old.length = 0 ∧ p.new.length = 0
      · obtain ⟨b1, b2, b3⟩ := hb
        by_cases h3 : p.kind = 3
        · simp [hn, h3, b1, b2, b3]
        · by_cases h4 : p.kind = 1
          · simp [hn, h4, b1, b2, b3]
          · by_cases h5 : p.kind = 2
            · simp [hn, h5, b1, b2, b3]
            · have : p.kind < 0 ∨ 3 < p.kind := by omega
              simp [hn, h0, h3, h4, h5, this]
      · have hb' : (!decide (p.pos = 0) || decide (0 < (p.old.length : Int)) || decide (0 < (p.new.length : Int))) = true := by
          simp; omega
        have hb2 : (decide (p.pos = 0) && decide ((p.old.length : Int) = 0) && decide ((p.new.length : Int) = 0)) = false := by
          rw [Bool.eq_false_iff]; intro h; simp only [Bool.and_eq_true, decide_eq_true_eq] at h; omega
        rw [if_neg h0, if_pos hb', if_neg h0, hb2]
        simp
  · simp [hn]
def refNames (p : Prim) : List ByteArray := if p.kind = 3 then (if Op.bytesLess p.name.toList p.to.toList = true then [p.name, p.to] else [p.to, p.name]) else [p.name]
theorem refNames_perm (p : Prim) : (refNames p).Perm p.names := by
  unfold refNames Prim.names
  split
  · split
    · exact List.Perm.refl _
    · exact List.Perm.swap _ _ _
  · exact List.Perm.refl _
theorem any_perm {α : Type} {f : α → Bool} {l m : List α} (h : l.Perm m) : l.any f = m.any f := by
  rw [Bool.eq_iff_iff, List.any_eq_true, List.any_eq_true]
  exact ⟨fun ⟨x, h1, h2⟩ => ⟨x, h.mem_iff.1 h1, h2⟩, fun ⟨x, h1, h2⟩ => ⟨x, h.mem_iff.2 h1, h2⟩⟩
abbrev Two (r : Prim × Prim × Bool) := { x : (Prim × Prim × Bool) × (Rp.Lay Prim × Rp.Lay Prim) // x.1 = r }
def Two.v {r : Prim × Prim × Bool} (x : Two r) : Value := .tuple #[sv x.1.1.1 x.1.2.1, sv x.1.1.2.1 x.1.2.2, .bool x.1.1.2.2]
def Two.g {r : Prim × Prim × Bool} (x : Two r) : List Asn := Rp.asn x.1.1.1 x.1.2.1 ++ Rp.asn x.1.1.2.1 x.1.2.2
def sizes (l : List ByteArray) : Nat := (l.map ByteArray.size).sum
def Prim.many (p : Prim) : Nat := p.name.size + p.to.size + p.old.length + p.new.length + sizes p.old + sizes p.new
def many (l : List Prim) : Nat := l.length + (l.map Prim.many).sum

theorem right_pos {p : Prim} (h : p.right = true) : 0 ≤ p.pos ∧ p.pos ≤ 1048576 := by
  unfold Prim.right Prim.bare at h
  split at h
  · simp only [Bool.and_eq_true, decide_eq_true_eq] at h; omega
  · split at h <;> · simp only [Bool.and_eq_true, decide_eq_true_eq] at h; omega
theorem swapped_fit {p q : Prim} (hp : p.fit) (hq : q.fit) : (swapped p q).1.fit ∧ (swapped p q).2.1.fit := by
  obtain ⟨p1, p2, p3, p4, p5, p6⟩ := hp
  obtain ⟨q1, q2, q3, q4, q5, q6⟩ := hq
  unfold swapped hunks
  refine ⟨?_, ?_⟩ <;> (repeat' split) <;> constructor <;> assumption
theorem dcomm (a b : ByteArray) : decide (a = b) = decide (b = a) := by
  by_cases h : a = b
  · simp [h]
  · simp [h, show ¬ b = a from fun e => h e.symm]
theorem swap_eq (p q : Prim) : refSwap p q = swap p q := by
  have h : refTwo p q = swapped p q := by
    unfold refTwo swapped
    by_cases hp : p.kind = 0
    · by_cases hq : q.kind = 0
      · by_cases hn : p.name = q.name <;> simp [hp, hq, hn]
      · by_cases hq3 : q.kind = 3
        · by_cases hn : p.name = q.name
          · simp [hp, hq3, hn]
          · have h1 : decide (q.name = p.name) = false := by simp [show ¬ q.name = p.name from fun e => hn e.symm]
            have h2 : p.meets q = decide (p.name = q.to) := by
              unfold Prim.meets Prim.names
              rw [if_neg (by omega), if_pos hq3, dcomm p.name q.to]
              simp only [List.any_cons, List.any_nil, h1, Bool.false_or, Bool.or_false]
            rw [if_neg (by omega), if_neg (by simp [hn]), if_neg (by omega), if_neg (by omega), if_neg (by omega), if_pos ⟨hp, hq3⟩, if_neg hn, h2]
        · rw [if_neg (by omega), if_neg (by omega), if_neg (by omega), if_neg (by omega), if_neg (by omega), if_neg (by omega), if_neg (by omega)]
    · by_cases hp3 : p.kind = 3
      · by_cases hq : q.kind = 0
        · by_cases hn : p.to = q.name
          · simp [hp3, hq, hn]
          · have h1 : decide (q.name = p.to) = false := by simp [show ¬ q.name = p.to from fun e => hn e.symm]
            have h2 : p.meets q = decide (p.name = q.name) := by
              unfold Prim.meets Prim.names
              rw [if_pos hp3, if_neg (by omega), dcomm p.name q.name]
              simp only [List.any_cons, List.any_nil, h1, Bool.false_or, Bool.or_false]
            rw [if_neg (by omega), if_neg (by omega), if_neg (by simp [hn]), if_neg (by omega), if_neg (by omega), if_neg (by omega), if_pos ⟨hp3, hq⟩, if_neg hn, h2]
        · rw [if_neg (by omega), if_neg (by omega), if_neg (by omega), if_neg (by omega), if_neg (by omega), if_neg (by omega), if_neg (by omega)]
      · rw [if_neg (by omega), if_neg (by omega), if_neg (by omega), if_neg (by omega), if_neg (by omega), if_neg (by omega), if_neg (by omega)]
  unfold refSwap swap
  rw [h]
theorem dropWhile_nil {f : UInt8 → Bool} : ∀ (l : List UInt8), l.dropWhile f = [] ↔ ∀ b ∈ l, f b = true
  | [] => by simp
  | x :: l => by
    rw [List.dropWhile_cons]
    have ih := dropWhile_nil (f := f) l
    by_cases h : f x = true
    · rw [if_pos h, ih]; simp [h]
    · rw [if_neg h]; simp [h]
theorem meets_ref (p q : Prim) : ((refNames p).any fun s => (refNames q).any fun t => decide (s = t)) = p.meets q := by
  unfold Prim.meets
  rw [any_perm (refNames_perm p)]
  congr 1
  funext s
  rw [any_perm (refNames_perm q)]
  congr 1
  funext t
  exact dcomm s t
theorem trimS_nil (l cs : List UInt8) : Lib.trimS l cs = [] ↔ ∀ b ∈ l, cs.contains b = true := by
  unfold Lib.trimS Lib.trimLeftS Lib.trimRightS
  constructor
  · intro h b hb
    have h1 : ∀ x ∈ (l.reverse.dropWhile (cs.contains ·)).reverse, cs.contains x = true := by
      have := (dropWhile_nil _).1 h
      exact this
    have h2 : l.reverse = l.reverse.takeWhile (cs.contains ·) ++ l.reverse.dropWhile (cs.contains ·) := (List.takeWhile_append_dropWhile).symm
    have hb' : b ∈ l.reverse := by simpa using hb
    rw [h2] at hb'
    rcases List.mem_append.1 hb' with h3 | h3
    · exact List.all_eq_true.1 (List.all_takeWhile (p := (cs.contains ·)) (l := l.reverse)) b h3
    · exact h1 b (by simpa using h3)
  · intro h
    rw [dropWhile_nil]
    intro x hx
    have : x ∈ l := by
      have := (List.dropWhile_sublist _).mem (by simpa using hx : x ∈ l.reverse.dropWhile (cs.contains ·))
      simpa using this
    exact h x this
end Go.Sx

end
section
set_option linter.unusedVariables false
set_option linter.unusedSimpArgs false
namespace Go.Sx
open Go
theorem meets_comm (p q : Prim) : p.meets q = q.meets p := by
  rw [Bool.eq_iff_iff]
  unfold Prim.meets
  simp only [List.any_eq_true, decide_eq_true_eq]
  constructor
  · rintro ⟨a, ha, b, hb, rfl⟩; exact ⟨b, hb, b, ha, rfl⟩
  · rintro ⟨a, ha, b, hb, rfl⟩; exact ⟨b, hb, b, ha, rfl⟩
theorem flip_names (p : Prim) : p.flip.names.Perm p.names := by
  unfold Prim.flip Prim.names
  by_cases h0 : p.kind = 0
  · simp [h0]
  · by_cases h1 : p.kind = 1 ∨ p.kind = 2
    · rw [if_neg h0, if_pos h1]
      rcases h1 with h | h <;> simp [h]
    · rw [if_neg h0, if_neg h1]
      by_cases h3 : p.kind = 3
      · simp only [h3, if_true]
        exact List.Perm.swap _ _ _
      · simp [h3]
theorem meets_flip (p q : Prim) : p.flip.meets q = p.meets q := by
  unfold Prim.meets
  exact any_perm (flip_names p)
theorem flip_flip (p : Prim) : p.flip.flip = p := by
  obtain ⟨k, a, b, n, o, w⟩ := p
  unfold Prim.flip
  by_cases h0 : k = 0
  · simp [h0]
  · by_cases h1 : k = 1
    · simp [h1]
    · by_cases h2 : k = 2
      · simp [h2]
      · by_cases h3 : k = 3
        · simp [h3]
        · simp [h0, h1, h2, h3]
theorem flip_kind (p : Prim) : (p.flip.kind = 0 ↔ p.kind = 0) ∧ (p.flip.kind = 3 ↔ p.kind = 3) := by
  unfold Prim.flip
  split
  · simp_all
  · split
    · rename_i h0 h
      show (3 - p.kind = 0 ↔ p.kind = 0) ∧ (3 - p.kind = 3 ↔ p.kind = 3)
      omega
    · split
      · simp_all
      · simp_all
theorem flip_right (p : Prim) : p.flip.right = p.right := by
  obtain ⟨k, a, b, n, o, w⟩ := p
  unfold Prim.flip Prim.right Prim.bare
  by_cases h0 : k = 0
  · simp only [h0, if_true]
    rw [show decide (w = o) = decide (o = w) from by by_cases h : o = w <;> simp [h, eq_comm]]
    cases nameOk a <;> cases decide (b = ⟨#[]⟩) <;> cases decide (0 ≤ n) <;> cases decide (n ≤ 1048576) <;> cases o.all lineOk <;> cases w.all lineOk <;> simp
  · by_cases h1 : k = 1
    · simp [h1]
    · by_cases h2 : k = 2
      · simp [h2]
      · by_cases h3 : k = 3
        · simp only [h3]
          simp only [show ¬ ((3 : Int) = 0) by decide, show ¬ ((3 : Int) = 1 ∨ (3 : Int) = 2) by decide, if_true, if_false]
          rw [dcomm a b]
          cases nameOk a <;> cases nameOk b <;> simp
        · simp [h0, h1, h2, h3]
theorem swap_true {p q a b : Prim} (h : swap p q = (a, b, true)) : swapped p q = (a, b, true) ∧ p.right = true ∧ q.right = true ∧ a.right = true ∧ b.right = true := by
  unfold swap at h
  split at h
  · rename_i hc
    simp only [Bool.and_eq_true] at hc
    obtain ⟨⟨⟨⟨h1, h2⟩, h3⟩, h4⟩, h5⟩ := hc
    simp only [Prod.mk.injEq, and_true] at h
    obtain ⟨rfl, rfl⟩ := h
    refine ⟨?_, h1, h2, h4, h5⟩
    rw [← h3]
  · simp at h
theorem swap_mk {p q a b : Prim} (h : swapped p q = (a, b, true)) (h1 : p.right = true) (h2 : q.right = true) (h3 : a.right = true) (h4 : b.right = true) : swap p q = (a, b, true) := by
  unfold swap
  rw [h]
  simp [h1, h2, h3, h4]
theorem swap_false {p q : Prim} (h : (swap p q).2.2 = false) : swap p q = (.zero, .zero, false) := by
  unfold swap at h ⊢
  split at h
  · simp at h
  · rename_i hc; rw [if_neg hc]
theorem swapped_cases {p q a b : Prim} (h : swapped p q = (a, b, true)) :
    (p.kind = 0 ∧ q.kind = 0 ∧ p.name = q.name ∧ p.pos + p.new.length < q.pos ∧ a = { q with pos := q.pos - ((p.new.length : Int) - p.old.length) } ∧ b = p) ∨
    (p.kind = 0 ∧ q.kind = 0 ∧ p.name = q.name ∧ q.pos + q.old.length < p.pos ∧ a = q ∧ b = { p with pos := p.pos + ((q.new.length : Int) - q.old.length) }) ∨
    (p.kind = 0 ∧ q.kind = 0 ∧ p.name ≠ q.name ∧ a = q ∧ b = p) ∨
    (p.kind = 0 ∧ q.kind = 3 ∧ p.name = q.name ∧ a = q ∧ b = { p with name := q.to }) ∨
    (p.kind = 0 ∧ q.kind = 3 ∧ p.name ≠ q.name ∧ p.name ≠ q.to ∧ a = q ∧ b = p) ∨
    (p.kind = 3 ∧ q.kind = 0 ∧ p.to = q.name ∧ a = { q with name := p.name } ∧ b = p) ∨
    (p.kind = 3 ∧ q.kind = 0 ∧ p.to ≠ q.name ∧ p.name ≠ q.name ∧ a = q ∧ b = p) ∨
    (¬ (p.kind = 0 ∧ q.kind = 0) ∧ ¬ (p.kind = 0 ∧ q.kind = 3) ∧ ¬ (p.kind = 3 ∧ q.kind = 0) ∧ p.meets q = false ∧ a = q ∧ b = p) := by
  unfold swapped hunks at h
  by_cases h1 : p.kind = 0 ∧ q.kind = 0
  · rw [if_pos h1] at h
    by_cases hn : p.name = q.name
    · rw [if_pos hn] at h
      by_cases c1 : p.pos + p.new.length < q.pos
      · rw [if_pos c1] at h
        simp only [Prod.mk.injEq] at h
        exact .inl ⟨h1.1, h1.2, hn, c1, h.1.symm, h.2.1.symm⟩
      · rw [if_neg c1] at h
        by_cases c2 : q.pos + q.old.length < p.pos
        · rw [if_pos c2] at h
          simp only [Prod.mk.injEq] at h
          exact .inr (.inl ⟨h1.1, h1.2, hn, c2, h.1.symm, h.2.1.symm⟩)
        · rw [if_neg c2] at h
          simp at h
    · rw [if_neg hn] at h
      simp only [Prod.mk.injEq] at h
      exact .inr (.inr (.inl ⟨h1.1, h1.2, hn, h.1.symm, h.2.1.symm⟩))
  · rw [if_neg h1] at h
    by_cases h2 : p.kind = 0 ∧ q.kind = 3
    · rw [if_pos h2] at h
      by_cases hn : p.name = q.name
      · rw [if_pos hn] at h
        simp only [Prod.mk.injEq] at h
        exact .inr (.inr (.inr (.inl ⟨h2.1, h2.2, hn, h.1.symm, h.2.1.symm⟩)))
      · rw [if_neg hn] at h
        simp only [Prod.mk.injEq, Bool.not_eq_true', decide_eq_false_iff_not] at h
        exact .inr (.inr (.inr (.inr (.inl ⟨h2.1, h2.2, hn, h.2.2, h.1.symm, h.2.1.symm⟩))))
    · rw [if_neg h2] at h
      by_cases h3 : p.kind = 3 ∧ q.kind = 0
      · rw [if_pos h3] at h
        by_cases hn : p.to = q.name
        · rw [if_pos hn] at h
          simp only [Prod.mk.injEq] at h
          exact .inr (.inr (.inr (.inr (.inr (.inl ⟨h3.1, h3.2, hn, h.1.symm, h.2.1.symm⟩)))))
        · rw [if_neg hn] at h
          simp only [Prod.mk.injEq, Bool.not_eq_true', decide_eq_false_iff_not] at h
          exact .inr (.inr (.inr (.inr (.inr (.inr (.inl ⟨h3.1, h3.2, hn, h.2.2, h.1.symm, h.2.1.symm⟩))))))
      · rw [if_neg h3] at h
        simp only [Prod.mk.injEq, Bool.not_eq_true'] at h
        exact .inr (.inr (.inr (.inr (.inr (.inr (.inr ⟨h1, h2, h3, h.2.2, h.1.symm, h.2.1.symm⟩))))))
theorem sw00a {p q : Prim} (h0 : p.kind = 0) (h1 : q.kind = 0) (hn : p.name = q.name) (h : p.pos + p.new.length < q.pos) : swapped p q = ({ q with pos := q.pos - ((p.new.length : Int) - p.old.length) }, p, true) := by
  rw [swapped, if_pos ⟨h0, h1⟩, if_pos hn, hunks, if_pos h]
theorem sw00b {p q : Prim} (h0 : p.kind = 0) (h1 : q.kind = 0) (hn : p.name = q.name) (h' : ¬ p.pos + p.new.length < q.pos) (h : q.pos + q.old.length < p.pos) : swapped p q = (q, { p with pos := p.pos + ((q.new.length : Int) - q.old.length) }, true) := by
  rw [swapped, if_pos ⟨h0, h1⟩, if_pos hn, hunks, if_neg h', if_pos h]
theorem sw00n {p q : Prim} (h0 : p.kind = 0) (h1 : q.kind = 0) (hn : p.name ≠ q.name) : swapped p q = (q, p, true) := by
  rw [swapped, if_pos ⟨h0, h1⟩, if_neg hn]
theorem sw03 {p q : Prim} (h0 : p.kind = 0) (h1 : q.kind = 3) (hn : p.name = q.name) : swapped p q = (q, { p with name := q.to }, true) := by
  rw [swapped, if_neg (by omega), if_pos ⟨h0, h1⟩, if_pos hn]
theorem sw03n {p q : Prim} (h0 : p.kind = 0) (h1 : q.kind = 3) (hn : p.name ≠ q.name) (ht : p.name ≠ q.to) : swapped p q = (q, p, true) := by
  rw [swapped, if_neg (by omega), if_pos ⟨h0, h1⟩, if_neg hn]; simp [ht]
theorem sw30 {p q : Prim} (h0 : p.kind = 3) (h1 : q.kind = 0) (hn : p.to = q.name) : swapped p q = ({ q with name := p.name }, p, true) := by
  rw [swapped, if_neg (by omega), if_neg (by omega), if_pos ⟨h0, h1⟩, if_pos hn]
theorem sw30n {p q : Prim} (h0 : p.kind = 3) (h1 : q.kind = 0) (hn : p.to ≠ q.name) (ht : p.name ≠ q.name) : swapped p q = (q, p, true) := by
  rw [swapped, if_neg (by omega), if_neg (by omega), if_pos ⟨h0, h1⟩, if_neg hn]; simp [ht]
theorem swel {p q : Prim} (h1 : ¬ (p.kind = 0 ∧ q.kind = 0)) (h2 : ¬ (p.kind = 0 ∧ q.kind = 3)) (h3 : ¬ (p.kind = 3 ∧ q.kind = 0)) (h : p.meets q = false) : swapped p q = (q, p, true) := by
  rw [swapped, if_neg h1, if_neg h2, if_neg h3, h]; rfl
theorem swapped_back {p q a b : Prim} (h : swapped p q = (a, b, true)) : swapped a b = (p, q, true) := by
  rcases swapped_cases h with ⟨h0, h1, hn, hc, rfl, rfl⟩ | ⟨h0, h1, hn, hc, rfl, rfl⟩ | ⟨h0, h1, hn, rfl, rfl⟩ | ⟨h0, h1, hn, rfl, rfl⟩ | ⟨h0, h1, hn, ht, rfl, rfl⟩ | ⟨h0, h1, hn, rfl, rfl⟩ | ⟨h0, h1, hn, ht, rfl, rfl⟩ | ⟨h1, h2, h3, hm, rfl, rfl⟩
  · refine Eq.trans (sw00b h1 h0 hn.symm (by dsimp only; omega) (by dsimp only; omega)) ?_
    simp only [Prod.mk.injEq, true_and, and_true]
    cases q; simp
  · refine Eq.trans (sw00a h1 h0 hn.symm (by dsimp only; omega)) ?_
    simp only [Prod.mk.injEq, true_and, and_true]
    cases p; simp
  · exact sw00n h1 h0 (Ne.symm hn)
  · refine Eq.trans (sw30 h1 h0 rfl) ?_
    simp only [Prod.mk.injEq, true_and, and_true]
    cases p; simp_all
  · exact sw30n h1 h0 (Ne.symm ht) (Ne.symm hn)
  · refine Eq.trans (sw03 h1 h0 rfl) ?_
    simp only [Prod.mk.injEq, true_and, and_true]
    cases q; simp_all
  · exact sw03n h1 h0 (Ne.symm ht) (Ne.symm hn)
  · exact swel (fun e => h1 ⟨e.2, e.1⟩) (fun e => h3 ⟨e.2, e.1⟩) (fun e => h2 ⟨e.2, e.1⟩) (by rw [meets_comm]; exact hm)
theorem swap_back {p q a b : Prim} (h : swap p q = (a, b, true)) : swap a b = (p, q, true) := by
  obtain ⟨h1, h2, h3, h4, h5⟩ := swap_true h
  exact swap_mk (swapped_back h1) h4 h5 h2 h3
theorem flip0 {p : Prim} (h : p.kind = 0) : p.flip = { p with old := p.new, new := p.old } := by rw [Prim.flip, if_pos h]
theorem flip3 {p : Prim} (h : p.kind = 3) : p.flip = { p with name := p.to, to := p.name } := by rw [Prim.flip, if_neg (by omega), if_neg (by omega), if_pos h]
theorem swapped_square {p q a b : Prim} (h : swapped p q = (a, b, true)) : swapped p.flip a = (q, b.flip, true) := by
  rcases swapped_cases h with ⟨h0, h1, hn, hc, ha, hb⟩ | ⟨h0, h1, hn, hc, ha, hb⟩ | ⟨h0, h1, hn, ha, hb⟩ | ⟨h0, h1, hn, ha, hb⟩ | ⟨h0, h1, hn, ht, ha, hb⟩ | ⟨h0, h1, hn, ha, hb⟩ | ⟨h0, h1, hn, ht, ha, hb⟩ | ⟨h1, h2, h3, hm, ha, hb⟩
  all_goals subst ha; subst hb; clear h
  · rw [flip0 h0]
    refine Eq.trans (sw00a h0 h1 hn (by dsimp only; omega)) ?_
    first | rfl | (simp only [Prod.mk.injEq, true_and, and_true]; cases q; simp; omega) | (simp only [Prod.mk.injEq, true_and, and_true, Prim.flip, h0, h1, if_true]; simp; omega) | (simp [Prim.flip, h0, h1]; done) | (simp [Prim.flip, h0, h1]; omega) | (simp_all [Prim.flip]; done) | (simp_all [Prim.flip]; omega)
  · rw [flip0 h0]
    refine Eq.trans (sw00b h0 h1 hn (by dsimp only; omega) (by dsimp only; omega)) ?_
    first | rfl | (simp only [Prod.mk.injEq, true_and, and_true]; cases q; simp; omega) | (simp only [Prod.mk.injEq, true_and, and_true, Prim.flip, h0, h1, if_true]; simp; omega) | (simp [Prim.flip, h0, h1]; done) | (simp [Prim.flip, h0, h1]; omega) | (simp_all [Prim.flip]; done) | (simp_all [Prim.flip]; omega)
  · rw [flip0 h0]
    refine Eq.trans (sw00n h0 h1 hn) ?_
    first | rfl | (simp only [Prod.mk.injEq, true_and, and_true]; cases q; simp; omega) | (simp only [Prod.mk.injEq, true_and, and_true, Prim.flip, h0, h1, if_true]; simp; omega) | (simp [Prim.flip, h0, h1]; done) | (simp [Prim.flip, h0, h1]; omega) | (simp_all [Prim.flip]; done) | (simp_all [Prim.flip]; omega)
  · rw [flip0 h0]
    refine Eq.trans (sw03 h0 h1 hn) ?_
    first | rfl | (simp only [Prod.mk.injEq, true_and, and_true]; cases q; simp; omega) | (simp only [Prod.mk.injEq, true_and, and_true, Prim.flip, h0, h1, if_true]; simp; omega) | (simp [Prim.flip, h0, h1]; done) | (simp [Prim.flip, h0, h1]; omega) | (simp_all [Prim.flip]; done) | (simp_all [Prim.flip]; omega)
  · rw [flip0 h0]
    refine Eq.trans (sw03n h0 h1 hn ht) ?_
    first | rfl | (simp only [Prod.mk.injEq, true_and, and_true]; cases q; simp; omega) | (simp only [Prod.mk.injEq, true_and, and_true, Prim.flip, h0, h1, if_true]; simp; omega) | (simp [Prim.flip, h0, h1]; done) | (simp [Prim.flip, h0, h1]; omega) | (simp_all [Prim.flip]; done) | (simp_all [Prim.flip]; omega)
  · rw [flip3 h0]
    refine Eq.trans (sw30 h0 h1 rfl) ?_
    first | rfl | (simp only [Prod.mk.injEq, true_and, and_true]; cases q; simp; omega) | (simp only [Prod.mk.injEq, true_and, and_true, Prim.flip, h0, h1, if_true]; simp; omega) | (simp [Prim.flip, h0, h1]; done) | (simp [Prim.flip, h0, h1]; omega) | (simp_all [Prim.flip]; done) | (simp_all [Prim.flip]; omega)
  · rw [flip3 h0]
    refine Eq.trans (sw30n h0 h1 ht hn) ?_
    first | rfl | (simp only [Prod.mk.injEq, true_and, and_true]; cases q; simp; omega) | (simp only [Prod.mk.injEq, true_and, and_true, Prim.flip, h0, h1, if_true]; simp; omega) | (simp [Prim.flip, h0, h1]; done) | (simp [Prim.flip, h0, h1]; omega) | (simp_all [Prim.flip]; done) | (simp_all [Prim.flip]; omega)
  · exact swel (fun e => h1 ⟨(flip_kind _).1.1 e.1, e.2⟩) (fun e => h2 ⟨(flip_kind _).1.1 e.1, e.2⟩) (fun e => h3 ⟨(flip_kind _).2.1 e.1, e.2⟩) (by rw [meets_flip]; exact hm)
theorem swap_square {p q a b : Prim} (h : swap p q = (a, b, true)) : swap p.flip a = (q, b.flip, true) := by
  obtain ⟨h1, h2, h3, h4, h5⟩ := swap_true h
  exact swap_mk (swapped_square h1) (by rw [flip_right]; exact h2) h4 h3 (by rw [flip_right]; exact h5)
theorem swapped_inv {p q a b : Prim} (h : swapped p q = (a, b, true)) : swapped q.flip p.flip = (b.flip, a.flip, true) := by
  rcases swapped_cases h with ⟨h0, h1, hn, hc, ha, hb⟩ | ⟨h0, h1, hn, hc, ha, hb⟩ | ⟨h0, h1, hn, ha, hb⟩ | ⟨h0, h1, hn, ha, hb⟩ | ⟨h0, h1, hn, ht, ha, hb⟩ | ⟨h0, h1, hn, ha, hb⟩ | ⟨h0, h1, hn, ht, ha, hb⟩ | ⟨h1, h2, h3, hm, ha, hb⟩
  all_goals subst ha; subst hb; clear h
  · rw [flip0 h0, flip0 h1]
    refine Eq.trans (sw00b h1 h0 hn.symm (by dsimp only; omega) (by dsimp only; omega)) ?_
    first | rfl | (simp only [Prod.mk.injEq, true_and, and_true]; cases q; simp; omega) | (simp only [Prod.mk.injEq, true_and, and_true, Prim.flip, h0, h1, if_true]; simp; omega) | (simp [Prim.flip, h0, h1]; done) | (simp [Prim.flip, h0, h1]; omega) | (simp_all [Prim.flip]; done) | (simp_all [Prim.flip]; omega)
  · rw [flip0 h0, flip0 h1]
    refine Eq.trans (sw00a h1 h0 hn.symm (by dsimp only; omega)) ?_
    first | rfl | (simp only [Prod.mk.injEq, true_and, and_true]; cases q; simp; omega) | (simp only [Prod.mk.injEq, true_and, and_true, Prim.flip, h0, h1, if_true]; simp; omega) | (simp [Prim.flip, h0, h1]; done) | (simp [Prim.flip, h0, h1]; omega) | (simp_all [Prim.flip]; done) | (simp_all [Prim.flip]; omega)
  · rw [flip0 h0, flip0 h1]
    refine Eq.trans (sw00n h1 h0 (Ne.symm hn)) ?_
    first | rfl | (simp only [Prod.mk.injEq, true_and, and_true]; cases q; simp; omega) | (simp only [Prod.mk.injEq, true_and, and_true, Prim.flip, h0, h1, if_true]; simp; omega) | (simp [Prim.flip, h0, h1]; done) | (simp [Prim.flip, h0, h1]; omega) | (simp_all [Prim.flip]; done) | (simp_all [Prim.flip]; omega)
  · rw [flip0 h0, flip3 h1]
    refine Eq.trans (sw30 h1 h0 hn.symm) ?_
    first | rfl | (simp only [Prod.mk.injEq, true_and, and_true]; cases q; simp; omega) | (simp only [Prod.mk.injEq, true_and, and_true, Prim.flip, h0, h1, if_true]; simp; omega) | (simp [Prim.flip, h0, h1]; done) | (simp [Prim.flip, h0, h1]; omega) | (simp_all [Prim.flip]; done) | (simp_all [Prim.flip]; omega)
  · rw [flip0 h0, flip3 h1]
    refine Eq.trans (sw30n h1 h0 (Ne.symm hn) (Ne.symm ht)) ?_
    first | rfl | (simp only [Prod.mk.injEq, true_and, and_true]; cases q; simp; omega) | (simp only [Prod.mk.injEq, true_and, and_true, Prim.flip, h0, h1, if_true]; simp; omega) | (simp [Prim.flip, h0, h1]; done) | (simp [Prim.flip, h0, h1]; omega) | (simp_all [Prim.flip]; done) | (simp_all [Prim.flip]; omega)
  · rw [flip3 h0, flip0 h1]
    refine Eq.trans (sw03 h1 h0 hn.symm) ?_
    first | rfl | (simp only [Prod.mk.injEq, true_and, and_true]; cases q; simp; omega) | (simp only [Prod.mk.injEq, true_and, and_true, Prim.flip, h0, h1, if_true]; simp; omega) | (simp [Prim.flip, h0, h1]; done) | (simp [Prim.flip, h0, h1]; omega) | (simp_all [Prim.flip]; done) | (simp_all [Prim.flip]; omega)
  · rw [flip3 h0, flip0 h1]
    refine Eq.trans (sw03n h1 h0 (Ne.symm hn) (Ne.symm ht)) ?_
    first | rfl | (simp only [Prod.mk.injEq, true_and, and_true]; cases q; simp; omega) | (simp only [Prod.mk.injEq, true_and, and_true, Prim.flip, h0, h1, if_true]; simp; omega) | (simp [Prim.flip, h0, h1]; done) | (simp [Prim.flip, h0, h1]; omega) | (simp_all [Prim.flip]; done) | (simp_all [Prim.flip]; omega)
  · exact swel (fun e => h1 ⟨(flip_kind _).1.1 e.2, (flip_kind _).1.1 e.1⟩) (fun e => h3 ⟨(flip_kind _).2.1 e.2, (flip_kind _).1.1 e.1⟩) (fun e => h2 ⟨(flip_kind _).1.1 e.2, (flip_kind _).2.1 e.1⟩) (by rw [meets_flip, meets_comm, meets_flip]; exact hm)
theorem swap_inv {p q a b : Prim} (h : swap p q = (a, b, true)) : swap q.flip p.flip = (b.flip, a.flip, true) := by
  obtain ⟨h1, h2, h3, h4, h5⟩ := swap_true h
  exact swap_mk (swapped_inv h1) (by rw [flip_right]; exact h3) (by rw [flip_right]; exact h2) (by rw [flip_right]; exact h5) (by rw [flip_right]; exact h4)
theorem swap_keeps {p q a b : Prim} (h : swap p q = (a, b, true)) : (a.kind = q.kind ∧ a.old.length = q.old.length ∧ a.new.length = q.new.length ∧ (a.kind = 0 ∨ a = q)) ∧ (b.kind = p.kind ∧ b.old.length = p.old.length ∧ b.new.length = p.new.length ∧ (b.kind = 0 ∨ b = p)) := by
  obtain ⟨h1, h2, h3, h4, h5⟩ := swap_true h
  rcases swapped_cases h1 with ⟨h0, h1, hn, hc, rfl, rfl⟩ | ⟨h0, h1, hn, hc, rfl, rfl⟩ | ⟨h0, h1, hn, rfl, rfl⟩ | ⟨h0, h1, hn, rfl, rfl⟩ | ⟨h0, h1, hn, ht, rfl, rfl⟩ | ⟨h0, h1, hn, rfl, rfl⟩ | ⟨h0, h1, hn, ht, rfl, rfl⟩ | ⟨h1, h2, h3, hm, rfl, rfl⟩ <;> simp_all
end Go.Sx

end
section
set_option linter.unusedVariables false
set_option linter.unusedSimpArgs false
namespace Go.Sx
open Go
def past1 (p : Prim) : List Prim → Option (List Prim × Prim)
  | [] => some ([], p)
  | q :: m => if (swap p q).2.2 = true then (past1 (swap p q).2.1 m).map fun r => ((swap p q).1 :: r.1, r.2) else none
def swapR : List Prim → List Prim → List Prim → Option (List Prim × List Prim)
  | [], first, second => some (first, second)
  | p :: l, first, second => (past1 p first).bind fun r => swapR l r.1 (r.2 :: second)
def swapL (l m : List Prim) : Option (List Prim × List Prim) := swapR l.reverse m []
def Pas (p : Prim) (m f : List Prim) (q : Prim) : Prop := past1 p m = some (f, q)
theorem pas_nil {p q : Prim} {f : List Prim} : Pas p [] f q ↔ f = [] ∧ q = p := by
  unfold Pas past1
  simp [eq_comm]
theorem pas_cons {p x q : Prim} {m f : List Prim} : Pas p (x :: m) f q ↔ ∃ a b f', swap p x = (a, b, true) ∧ Pas b m f' q ∧ f = a :: f' := by
  unfold Pas
  rw [past1]
  constructor
  · intro h
    split at h
    · rename_i hc
      rw [Option.map_eq_some_iff] at h
      obtain ⟨r, h1, h2⟩ := h
      obtain ⟨r1, r2⟩ := r
      simp only [Prod.mk.injEq] at h2
      exact ⟨_, _, r1, by rw [← hc], by rw [h1, h2.2], h2.1.symm⟩
    · cases h
  · rintro ⟨a, b, f', h1, h2, rfl⟩
    rw [h1]
    simp [h2]
theorem pas_app {q : Prim} {m2 f : List Prim} : ∀ {m1 : List Prim} {p : Prim}, Pas p (m1 ++ m2) f q ↔ ∃ f1 f2 b, Pas p m1 f1 b ∧ Pas b m2 f2 q ∧ f = f1 ++ f2
  | [], p => by
    simp only [List.nil_append, pas_nil]
    constructor
    · intro h; exact ⟨[], f, p, ⟨rfl, rfl⟩, h, rfl⟩
    · rintro ⟨_, f2, _, ⟨rfl, rfl⟩, h, rfl⟩; exact h
  | x :: m1, p => by
    rw [List.cons_append, pas_cons]
    constructor
    · rintro ⟨a, b, f', h1, h2, rfl⟩
      obtain ⟨f1, f2, c, h3, h4, rfl⟩ := pas_app.1 h2
      exact ⟨a :: f1, f2, c, pas_cons.2 ⟨a, b, f1, h1, h3, rfl⟩, h4, rfl⟩
    · rintro ⟨f1, f2, c, h1, h2, rfl⟩
      obtain ⟨a, b, f', h3, h4, rfl⟩ := pas_cons.1 h1
      exact ⟨a, b, f' ++ f2, h3, pas_app.2 ⟨f', f2, c, h4, h2, rfl⟩, rfl⟩
inductive Grid : List Prim → List Prim → List Prim → List Prim → Prop
  | nil {m} : Grid [] m m []
  | row {l p m n q f s} : Pas p m n q → Grid l n f s → Grid (l ++ [p]) m f (s ++ [q])
def pastT (p : Prim) (m : List Prim) : List Prim × Prim × Bool := match past1 p m with
  | some r => (r.1, r.2, true)
  | none => ([], Prim.zero, false)
def PI (p : Prim) (m : List Prim) (k : Nat) (f : List Prim) (p' : Prim) : Prop := past1 p m = (past1 p' (m.drop k)).map fun r => (f ++ r.1, r.2)
theorem PI.start (p : Prim) (m : List Prim) : PI p m 0 [] p := by
  unfold PI
  cases h : past1 p m <;> simp [h]
theorem PI.step {p p' a b : Prim} {m f : List Prim} {k : Nat} (h : PI p m k f p') (hk : k < m.length) (hs : (a, b, true) = swap p' m[k]) : PI p m (k + 1) (f ++ [a]) b := by
  unfold PI at *
  rw [h, List.drop_eq_getElem_cons hk, past1, ← hs]
  simp only [if_true]
  cases past1 b (m.drop (k + 1)) <;> simp
theorem PI.stop {p p' a b : Prim} {m f : List Prim} {k : Nat} (h : PI p m k f p') (hk : k < m.length) (hs : (a, b, false) = swap p' m[k]) : pastT p m = ([], Prim.zero, false) := by
  unfold PI at h
  unfold pastT
  rw [h, List.drop_eq_getElem_cons hk, past1, ← hs]
  rfl
theorem PI.done {p p' : Prim} {m f : List Prim} {k : Nat} (h : PI p m k f p') (hk : ¬ k < m.length) : pastT p m = (f, p', true) := by
  unfold PI at h
  unfold pastT
  rw [h, List.drop_eq_nil_of_le (by omega), past1]
  simp
end Go.Sx

end
