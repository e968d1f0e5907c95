/- OWN WORK: a part of the proof of a law of the seat YtaojmjfgopbgcaaDoor: how a change lies in memory. -/
import Derived.Test.YtaojmjfgopbgcaaDoorXBraid2
set_option linter.unusedVariables false
set_option linter.unusedSimpArgs false
namespace Go.Sx
open Go
abbrev Prim3 := Prim × Prim × Prim
def st0 (x : Prim3) : Option Prim3 := if (swap x.1 x.2.1).2.2 = true then some ((swap x.1 x.2.1).1, (swap x.1 x.2.1).2.1, x.2.2) else none
def st1 (x : Prim3) : Option Prim3 := if (swap x.2.1 x.2.2).2.2 = true then some (x.1, (swap x.2.1 x.2.2).1, (swap x.2.1 x.2.2).2.1) else none
def three (late : Bool) (x : Prim3) : Option Prim3 := if late then (st1 x).bind fun y => (st0 y).bind st1 else (st0 x).bind fun y => (st1 y).bind st0
theorem st0_some {p q r : Prim} {y : Prim3} : st0 (p, q, r) = some y ↔ ∃ a b, swap p q = (a, b, true) ∧ y = (a, b, r) := by
  unfold st0
  constructor
  · intro h
    split at h
    · rename_i hc
      refine ⟨(swap p q).1, (swap p q).2.1, ?_, by simpa [eq_comm] using h⟩
      simp only at hc
      rw [← hc]
    · cases h
  · rintro ⟨a, b, h, rfl⟩
    simp [h]
theorem st1_some {p q r : Prim} {y : Prim3} : st1 (p, q, r) = some y ↔ ∃ a b, swap q r = (a, b, true) ∧ y = (p, a, b) := by
  unfold st1
  constructor
  · intro h
    split at h
    · rename_i hc
      refine ⟨(swap q r).1, (swap q r).2.1, ?_, by simpa [eq_comm] using h⟩
      simp only at hc
      rw [← hc]
    · cases h
  · rintro ⟨a, b, h, rfl⟩
    simp [h]
structure Near (p : Prim) : Prop where
  a : p.pos ≤ 10000
  o : p.old.length ≤ 5000
  n : p.new.length ≤ 5000
theorem near_flip {p : Prim} (h : Near p) : Near p.flip := by
  obtain ⟨h1, h2, h3⟩ := h
  unfold Prim.flip
  repeat' split
  all_goals exact ⟨by assumption, by assumption, by assumption⟩
theorem three_one {p q r : Prim} {y : Prim3} (hp : Near p) (hq : Near q) (hr : Near r) (h : three false (p, q, r) = some y) : three true (p, q, r) = some y := by
  unfold three at h ⊢
  simp only [if_true, Bool.false_eq_true, if_false, Option.bind_eq_some_iff] at h ⊢
  obtain ⟨y1, h1, y2, h2, h3⟩ := h
  obtain ⟨a, b, g1, rfl⟩ := st0_some.1 h1
  obtain ⟨c, d, g2, rfl⟩ := st1_some.1 h2
  obtain ⟨e, f, g3, rfl⟩ := st0_some.1 h3
  obtain ⟨s1, rp, rq, ra, rb⟩ := swap_true g1
  obtain ⟨s2, _, rr, rc, rd⟩ := swap_true g2
  obtain ⟨s3, _, _, re, rf⟩ := swap_true g3
  obtain ⟨c', d', x, t1, t2, t3⟩ := braid (right_pos rp).1 (right_pos rq).1 (right_pos rr).1 s1 s2 s3
  have wq := hq.a
  have wr := hr.a
  have wp := hp.a
  obtain ⟨u1, u2, u3, u4, u5, u6, u7, u8⟩ := swapped_right t1 rq rr (by omega) (by omega) hq.o hq.n hr.o hr.n
  have v1 := hr.o
  have v2 := hr.n
  obtain ⟨_, w2, _⟩ := swapped_right t2 rp u1 (by omega) (by omega) hp.o hp.n (by omega) (by omega)
  exact ⟨_, st1_some.2 ⟨_, _, swap_mk t1 rq rr u1 u2, rfl⟩, _, st0_some.2 ⟨_, _, swap_mk t2 rp u1 re w2, rfl⟩, st1_some.2 ⟨_, _, swap_mk t3 w2 u2 rf rd, rfl⟩⟩
def dual (x : Prim3) : Prim3 := (x.2.2.flip, x.2.1.flip, x.1.flip)
theorem dual_dual (x : Prim3) : dual (dual x) = x := by
  unfold dual
  simp only [Sx.flip_flip]
theorem dual0 {x y : Prim3} (h : st0 x = some y) : st1 (dual x) = some (dual y) := by
  obtain ⟨p, q, r⟩ := x
  obtain ⟨a, b, g, rfl⟩ := st0_some.1 h
  exact st1_some.2 ⟨_, _, swap_inv g, rfl⟩
theorem dual1 {x y : Prim3} (h : st1 x = some y) : st0 (dual x) = some (dual y) := by
  obtain ⟨p, q, r⟩ := x
  obtain ⟨a, b, g, rfl⟩ := st1_some.1 h
  exact st0_some.2 ⟨_, _, swap_inv g, rfl⟩
theorem three_dual {x y : Prim3} {late : Bool} (h : three late x = some y) : three (!late) (dual x) = some (dual y) := by
  unfold three at h ⊢
  cases late
  · simp only [if_true, Bool.false_eq_true, if_false, Option.bind_eq_some_iff, Bool.not_false] at h ⊢
    obtain ⟨y1, h1, y2, h2, h3⟩ := h
    exact ⟨_, dual0 h1, _, dual1 h2, dual0 h3⟩
  · simp only [if_true, Bool.false_eq_true, if_false, Option.bind_eq_some_iff, Bool.not_true] at h ⊢
    obtain ⟨y1, h1, y2, h2, h3⟩ := h
    exact ⟨_, dual1 h1, _, dual0 h2, dual1 h3⟩
/-- both ways are one -/
theorem three_same {p q r : Prim} (hp : Near p) (hq : Near q) (hr : Near r) : three false (p, q, r) = three true (p, q, r) := by
  cases h : three false (p, q, r) with
  | some y => exact (three_one hp hq hr h).symm
  | none =>
    cases h2 : three true (p, q, r) with
    | none => rfl
    | some y =>
      have h3 := three_dual h2
      have h4 := three_one (near_flip hr) (near_flip hq) (near_flip hp) h3
      have h5 := three_dual h4
      rw [dual_dual] at h5
      have h6 : three false (dual (r.flip, q.flip, p.flip)) = some y := h5
      have e : dual (r.flip, q.flip, p.flip) = (p, q, r) := by
        unfold dual
        simp only [Sx.flip_flip]
      rw [e, h] at h6
      cases h6
end Go.Sx
