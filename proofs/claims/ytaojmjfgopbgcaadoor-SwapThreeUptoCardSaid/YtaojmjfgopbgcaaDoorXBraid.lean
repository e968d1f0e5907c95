/- OWN WORK: a part of the proof of a law of the seat YtaojmjfgopbgcaaDoor: contracts of the library. -/
import Derived.Test.YtaojmjfgopbgcaaDoorXLaw
set_option linter.unusedVariables false
set_option linter.unusedSimpArgs false
namespace Go.Sx
open Go
/-- what is right stays right, of places and rows that are small -/
theorem swapped_right {p q a b : Prim} (h : swapped p q = (a, b, true)) (hp : p.right = true) (hq : q.right = true) (bp : p.pos ≤ 1000000) (bq : q.pos ≤ 1000000) (l1 : p.old.length ≤ 5000) (l2 : p.new.length ≤ 5000) (l3 : q.old.length ≤ 5000) (l4 : q.new.length ≤ 5000) :
    a.right = true ∧ b.right = true ∧ a.pos ≤ q.pos + 5000 ∧ b.pos ≤ p.pos + 5000 ∧ a.old.length = q.old.length ∧ a.new.length = q.new.length ∧ b.old.length = p.old.length ∧ b.new.length = p.new.length := by
  have pp := right_pos hp
  have pq := right_pos hq
  have place : ∀ (x : Prim) (z : Int), x.kind = 0 → x.right = true → 0 ≤ z → z ≤ 1048576 → ({ x with pos := z } : Prim).right = true := by
    intro x z h0 hx hz hz'
    unfold Prim.right at hx ⊢
    simp only [h0, if_true, Bool.and_eq_true, decide_eq_true_eq] at hx ⊢
    obtain ⟨g1, ⟨⟨⟨⟨g2, g3⟩, g4⟩, g5⟩, g6⟩, g7⟩ := hx
    exact ⟨g1, ⟨⟨⟨⟨g2, hz⟩, hz'⟩, g5⟩, g6⟩, g7⟩
  have nm : ∀ (x : Prim) (s : ByteArray), x.kind = 0 → x.right = true → nameOk s = true → ({ x with name := s } : Prim).right = true := by
    intro x s h0 hx hs
    unfold Prim.right at hx ⊢
    simp only [h0, if_true, Bool.and_eq_true] at hx ⊢
    exact ⟨hs, hx.2⟩
  have to3 : ∀ (x : Prim), x.kind = 3 → x.right = true → nameOk x.to = true := by
    intro x h3 hx
    unfold Prim.right at hx
    rw [h3] at hx
    simp only [show ¬ ((3 : Int) = 0) by decide, if_false, if_true, Bool.and_eq_true] at hx
    exact hx.2.1.2
  have nmo : ∀ (x : Prim), x.right = true → nameOk x.name = true := by
    intro x hx
    unfold Prim.right at hx
    simp only [Bool.and_eq_true] at hx
    exact hx.1
  rcases swapped_cases h with ⟨h0, h1, hn, hc, rfl, rfl⟩ | ⟨h0, h1, hn, hc, rfl, rfl⟩ | ⟨h0, h1, hn, rfl, rfl⟩ | ⟨h0, h1, hn, rfl, rfl⟩ | ⟨h0, h1, hn, ht, rfl, rfl⟩ | ⟨h0, h1, hn, rfl, rfl⟩ | ⟨h0, h1, hn, ht, rfl, rfl⟩ | ⟨h1, h2, h3, hm, rfl, rfl⟩
  · exact ⟨place _ _ h1 hq (by omega) (by omega), hp, by dsimp only; omega, by omega, rfl, rfl, rfl, rfl⟩
  · exact ⟨hq, place _ _ h0 hp (by omega) (by omega), by omega, by dsimp only; omega, rfl, rfl, rfl, rfl⟩
  · exact ⟨hq, hp, by omega, by omega, rfl, rfl, rfl, rfl⟩
  · exact ⟨hq, nm _ _ h0 hp (to3 _ h1 hq), by omega, by dsimp only; omega, rfl, rfl, rfl, rfl⟩
  · exact ⟨hq, hp, by omega, by omega, rfl, rfl, rfl, rfl⟩
  · exact ⟨nm _ _ h1 hq (nmo _ hp), hp, by dsimp only; omega, by omega, rfl, rfl, rfl, rfl⟩
  · exact ⟨hq, hp, by omega, by omega, rfl, rfl, rfl, rfl⟩
  · exact ⟨hq, hp, by omega, by omega, rfl, rfl, rfl, rfl⟩
end Go.Sx
