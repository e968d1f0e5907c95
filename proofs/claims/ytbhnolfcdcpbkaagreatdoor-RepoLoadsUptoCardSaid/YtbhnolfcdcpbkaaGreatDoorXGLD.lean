/- OWN WORK: a part of the proof of a law of the seat YtbhnolfcdcpbkaaGreatDoor: the rules by which the code is walked, what the functions compute, and the walk through them. -/
import Derived.Test.YtbhnolfcdcpbkaaGreatDoorXGLB
import Derived.Test.YtbhnolfcdcpbkaaGreatDoorProg
import Derived.Test.YtbhnolfcdcpbkaaGreatDoorXGLC
import Derived.Test.YtbhnolfcdcpbkaaGreatDoorXGLA
import Derived.Lib.AppendZeros
import Derived.Laws.StructEq
import Derived.Scope
import Derived.Sort.OwnSortedInts
set_option linter.unusedVariables false
set_option linter.unusedSimpArgs false
section
namespace Go.Proofs.YtbhnolfcdcpbkaaGreatDoor.X
set_option maxRecDepth 100000
open Go Go.RowKit Go.Proofs Go.Sx
open Tryz
attribute [local irreducible] slA isA box row TrL TrC TrN TrA Pu OpR
set_option maxHeartbeats 8000000
theorem depsOk_drop {id last : Int} {l : List Int} {k : Nat} (hk : k < l.length) : depsOk id last (l.drop k) = (!(decide (l[k] ≤ last) || decide (1000000000 < l[k]) || decide (l[k] = id)) && depsOk id l[k] (l.drop (k + 1))) := by
 rw [List.drop_eq_getElem_cons hk, depsOk]
theorem dec_patch (p q : Patch) : (decide (p.id = q.id) && decide (p.note = q.note) && decide (p.deps = q.deps) && decide (p.l = q.l)) = decide (p = q) := by
 rw [Bool.eq_iff_iff];cases p; cases q;simp [and_assoc]
theorem right_f1 {p : Patch} (h : (decide (p.id < 1) || decide (1000000000 < p.id) || !lineOk p.note) = true) : p.right = false := by
 unfold Patch.right; cases h1 : lineOk p.note <;> simp [h1] at h ⊢ <;> omega
theorem right_f2 {p : Patch} (h : 8 < p.deps.length) : p.right = false := by
 unfold Patch.right; rw [show decide (p.deps.length ≤ 8) = false from decide_eq_false (by omega)]; simp
theorem right_f3 {p : Patch} (h : depsOk p.id 0 p.deps = false) : p.right = false := by
 unfold Patch.right; rw [h]; simp
theorem right_t {p : Patch} (h : (decide (p.id < 1) || decide (1000000000 < p.id) || !lineOk p.note) = false) (h2 : p.deps.length ≤ 8) (h3 : depsOk p.id 0 p.deps = true) :
  p.right = (decide ((1 : Int) ≤ (p.l.length : Int)) && decide ((p.l.length : Int) ≤ 24) && p.l.all Prim.right) := by
 unfold Patch.right;simp only [Bool.or_eq_false_iff, decide_eq_false_iff_not, Bool.not_eq_false'] at h;rw [show decide (1 ≤ p.id) = true from decide_eq_true (by omega), show decide (p.id ≤ 1000000000) = true from decide_eq_true (by omega), h.2, h3, show decide (p.deps.length ≤ 8) = true from decide_eq_true h2];simp only [Bool.and_true, Bool.true_and]
 congr 2 <;> (rw [decide_eq_decide]; omega)
theorem right_g1 {p : Patch} (h : (decide (p.id < 1) || decide (1000000000 < p.id) || !lineOk p.note || decide ((8 : Int) < (p.deps.length : Int)) || decide ((p.l.length : Int) < 1) || decide ((24 : Int) < (p.l.length : Int))) = true) : p.right = false := by
 unfold Patch.right;cases h1 : lineOk p.note
 ·simp
 ·rw [Bool.eq_false_iff];intro h2;simp [h1] at h h2;omega
theorem right_g2 {p : Patch} (h : (decide (p.id < 1) || decide (1000000000 < p.id) || !lineOk p.note || decide ((8 : Int) < (p.deps.length : Int)) || decide ((p.l.length : Int) < 1) || decide ((24 : Int) < (p.l.length : Int))) = false) (h3 : depsOk p.id 0 p.deps = true) : p.right = p.l.all Prim.right := by
 unfold Patch.right;simp only [Bool.or_eq_false_iff, decide_eq_false_iff_not, Bool.not_eq_false'] at h;obtain ⟨⟨⟨⟨⟨a1, a2⟩, a3⟩, a4⟩, a5⟩, a6⟩ := h;rw [show decide (1 ≤ p.id) = true from decide_eq_true (by omega), show decide (p.id ≤ 1000000000) = true from decide_eq_true (by omega), a3, h3, show decide (p.deps.length ≤ 8) = true from decide_eq_true (by omega), show decide (1 ≤ p.l.length) = true from decide_eq_true (by omega), show decide (p.l.length ≤ 24) = true from decide_eq_true (by omega)];simp
theorem rsame_t {p q : Patch} (h : (!decide (p.id = q.id) || !decide (p.note = q.note) || !decide ((p.deps.length : Int) = (q.deps.length : Int))) = true) : ¬ p = q := by
 rintro rfl; simp at h
theorem rsame_f {p q : Patch} (h : (!decide (p.id = q.id) || !decide (p.note = q.note) || !decide ((p.deps.length : Int) = (q.deps.length : Int))) = false) : p.id = q.id ∧ p.note = q.note ∧ p.deps.length = q.deps.length := by
 simp at h;exact ⟨h.1.1, h.1.2, by omega⟩
theorem c_nRight1 (nn last : Int) (p : Patch) (y : Rp.Lay Patch) (bl bp : Nat) : Con Tryz.prog 159 [.int .i64 nn, pT bl, pT bp] [box bl 3 [.int .i64 last], box bp 63 (Rp.enc p y)] [] Unit (fun _ => .bool (decide (nn ≤ last) || decide (1000000000 < nn) || decide (nn = p.id))) (fun _ => [box bl 3 [.int .i64 nn], box bp 63 (Rp.enc p y)]) (fun _ => []) := by
 refine con func159 rfl ntmps159 rfl ?_;intro M0 F0 w0;refine k_ 23 ?_;refine orX 3 11 14 rfl (sL [0, 1, 2, 4, 6, 7, 8, 9]) ?_ ?_
 ·intro h11;refine k_ 3 ?_;refine ln (nmid (wk0 Φ Ω))
 apply exI
 ·intro h11;refine k_ 3 ?_;refine ln (nmid (wk0 Φ Ω))
 ·
  refine k_ 1 ?_;refine orX 5 15 20 rfl (sL [0, 1, 4, 6, 7, 8, 9]) ?_ ?_
  ·intro h15;refine k_ 5 ?_;refine ln (nmid (wk0 Φ Ω))
  apply exI
  ·intro h15;refine k_ 5 ?_;refine ln (nmid (wk0 Φ Ω))
  ·
   refine k_ 5 ?_;exact rR [0, 0] ()
theorem c_IndexFuncI (l : List Int) (A : Option Addr) (c : Nat) (hl : l.length ≤ 2000000) (last : Int) (p : Patch) (y : Rp.Lay Patch) (bl bp : Nat) : Con Tryz.prog 161 [.slice A l.length c, .func (.func 159) #[] #[pT bl, pT bp]] [box bl 3 [.int .i64 last], box bp 63 (Rp.enc p y)] [slA A l] {r : Int × Int // -1 ≤ r.1 ∧ r.1 ≤ 2000000 ∧ (0 ≤ r.1 ↔ depsOk p.id last l = false)} (fun r => .int .i64 r.1.1) (fun r => [box bl 3 [.int .i64 r.1.2], box bp 63 (Rp.enc p y)]) (fun _ => []) := by
 refine con func161 rfl ntmps161 rfl ?_;intro M0 F0 w0;refine k_ 14 ?_;refine cl (ι := {q : Nat × Int // q.1 ≤ l.length ∧ depsOk p.id last l = depsOk p.id q.2 (l.drop q.1)}) (fun i => St M0 F0 w0 19 [(0, .slice A l.length c), (1, .func (.func 159) #[] #[pT bl, pT bp]), (7, .int .i64 (l.length : Int)), (8, .int .i64 (i.1.1 : Int))] [box bl 3 [.int .i64 i.1.2], box bp 63 (Rp.enc p y)] [slA A l]) (fun i => l.length - i.1.1) ⟨(0, last), by simp⟩ (wk0 Φ Ω) ?_;rintro ⟨⟨k, la⟩, hk, hkk⟩;refine cmono (S' := St M0 F0 w0 19 [(0, .slice A l.length c), (1, .func (.func 159) #[] #[pT bl, pT bp]), (7, .int .i64 (l.length : Int)), (8, .int .i64 (k : Int))] [box bl 3 [.int .i64 la], box bp 63 (Rp.enc p y)] [slA A l]) Ħ ?_;refine k_ 6 ?_;refine cc rfl ?_ ?_
 ·intro h9;dsimp only at hk hkk;(try simp only [nrmZ] at h9);have hk1 : k < l.length := (by omega);rw [depsOk_drop hk1] at hkk;refine k_ 11 ?_;refine elC Θ k (List.getElem?_eq_getElem (l := l) hk1) ?_; rintro zbp zop zyp hAp;refine k_ 4 ?_;refine ls (op (p_ia k hAp hk1 rfl underlying61 sizeOf3 rfl rfl) rfl) ?_;refine ls (o_ldi isAgg3 rfl Θ 0 rfl Δ rfl) ?_;refine ls (o_callv (is := [0, 0]) rfl call159 (c_nRight1 l[k] la p y bl bp) rfl rfl rfl Ω rfl) ?_;refine le ?_; intro x16;refine k_ 2 ?_;refine cc rfl ?_ ?_
  ·intro h16;rw [h16] at hkk;refine k_ 8 ?_;exact rR [0, 0] ⟨((k : Int), l[k]), by dsimp only; omega, by dsimp only; omega, by dsimp only; exact ⟨fun _ => by simpa using hkk, fun _ => by omega⟩⟩
  ·intro h16;rw [h16] at hkk;refine k_ 7 ?_;refine nnext ⟨(k + 1, l[k]), hk1, by simpa using hkk⟩ (by dsimp only; omega) (wk0 Φ Ω)
 ·intro h9;dsimp only at hk hkk;(try simp only [nrmZ] at h9);refine k_ 12 ?_;exact rR [0, 0] ⟨(-1, la), by dsimp only; omega, by dsimp only; omega, by dsimp only; rw [hkk, List.drop_eq_nil_of_le (by omega)]; simp [depsOk]⟩
theorem c_ContainsFuncI (l : List Int) (A : Option Addr) (c : Nat) (hl : l.length ≤ 2000000) (last : Int) (p : Patch) (y : Rp.Lay Patch) (bl bp : Nat) : Con Tryz.prog 106 [.slice A l.length c, .func (.func 159) #[] #[pT bl, pT bp]] [box bl 3 [.int .i64 last], box bp 63 (Rp.enc p y)] [slA A l] Int (fun _ => .bool !(depsOk p.id last l)) (fun r => [box bl 3 [.int .i64 r], box bp 63 (Rp.enc p y)]) (fun _ => []) := by
 refine con func106 rfl ntmps106 rfl ?_;intro M0 F0 w0;refine k_ 9 ?_;refine lC [0, 0] call161 (c_IndexFuncI l A c hl last p y bl bp) ?_; rintro ⟨⟨r, rl⟩, hr1, hr2, hr3⟩;refine k_ 6 ?_;refine rret (is := [0, 0]) rl (Or.inl rfl) (Res.t rfl Res.d) ?_ rfl Ω;dsimp only at hr1 hr2 hr3; simp [packV]; rw [Bool.eq_iff_iff]; simp [hr3]
theorem c_nRight (p : Patch) (y : Rp.Lay Patch) (hp : p.fit) : Con Tryz.prog 105 [sv p y] [] [slA y.1.1 p.deps, slA y.2.1 p.l, capA y.2.2 p.l.length] Unit (fun _ => .bool (p.right)) (fun _ => []) (fun _ => []) := by
 refine con func105 rfl ntmps105 rfl ?_;intro M0 F0 w0;refine k_ 2 ?_;refine ls (o_box rfl rfl rfl) ?_;refine le ?_; intro b1;refine k_ 5 ?_;refine ls (o_alloc zeroValue3 rfl rfl) ?_;refine le ?_; intro b3;refine k_ 5 ?_;refine ls (op (p_mkf rfl) rfl) ?_;refine k_ 11 ?_;refine orX 4 10 14 rfl (sL [0, 1, 2, 3, 5, 4]) ?_ ?_
 ·intro h10;refine k_ 4 ?_;refine ln (nmid (wk0 Φ Ω))
 apply exI
 ·intro h10;refine k_ 4 ?_;refine ln (nmid (wk0 Φ Ω))
 ·
  refine k_ 1 ?_;refine orX 5 15 20 rfl (sL [0, 1, 2, 3, 5, 4]) ?_ ?_
  ·intro h15;refine k_ 5 ?_;refine ln (nmid (wk0 Φ Ω))
  apply exI
  ·intro h15;refine k_ 2 ?_;refine lwant rfl rfl rfl rfl (o_call (is := []) call160 (c_lineRight p.note) rfl rfl Ω rfl) ?_;refine le ?_; intro x18;refine k_ 2 ?_;refine ln (nmid (wk0 Φ Ω))
  ·
   refine k_ 3 ?_;refine cc rfl ?_ ?_
   ·intro h6;(try simp only [nrmZ] at h6);refine k_ 7 ?_;refine rret (is := []) () (Or.inl rfl) (Res.t rfl Res.d) ?_ rfl Ω;simp only [packV]; rw [right_f1 h6]
   ·intro h6;(try simp only [nrmZ] at h6);refine cs ?_;have hdl := hp.dl;refine k_ 6 ?_;refine splitL 26 rfl ?_ ?_
    ·intro h26;refine k_ 8 ?_;refine cc rfl (fun h => ?_) (fun h => by cases h);refine k_ 7 ?_;refine rret (is := []) () (Or.inl rfl) (Res.t rfl Res.d) ?_ rfl Ω;simp only [packV]; rw [right_f2 (by simp at h26; omega)]
    ·intro h26;refine k_ 3 ?_;refine lwant rfl rfl rfl rfl (o_call (is := [0, 0]) call106 (c_ContainsFuncI p.deps y.1.1 y.1.2 hp.dl 0 p y b3 b1) rfl rfl Ω rfl) ?_;refine le ?_; intro r30;refine k_ 4 ?_;refine cc rfl ?_ ?_
     ·intro h21;(try simp only [nrmZ] at h21);refine k_ 7 ?_;refine rret (is := []) () (Or.inl rfl) (Res.t rfl Res.d) ?_ rfl Ω;simp only [packV]; rw [right_f3 (by simpa using h21)]
     ·intro h21;(try simp only [nrmZ] at h21);refine k_ 4 ?_;have hll := hp.ll;refine k_ 6 ?_;refine andX 5 36 41 rfl (sL [0, 1, 2, 3, 5, 4, 20, 6, 22, 23, 24, 25, 26, 27, 28, 29, 30, 31, 21]) ?_ ?_
      ·intro h36;refine k_ 5 ?_;refine ln (nmid (wk0 Φ Ω))
      apply exI
      ·intro h36;refine k_ 5 ?_;refine ln (nmid (wk0 Φ Ω))
      ·
       refine k_ 1 ?_;refine andX 4 42 46 rfl (sL [0, 1, 2, 3, 5, 4, 20, 6, 22, 23, 24, 25, 26, 27, 28, 29, 30, 31, 21]) ?_ ?_
       ·intro h42;refine k_ 4 ?_;refine ln (nmid (wk0 Φ Ω))
       apply exI
       ·intro h42;refine k_ 2 ?_;refine lwant rfl rfl rfl rfl (o_call (is := []) call109 (c_seqRight p.l _ _ hp.ll hp.lf) rfl rfl Ω rfl) ?_;refine le ?_; intro x45;refine k_ 1 ?_;refine ln (nmid (wk0 Φ Ω))
       ·
        refine k_ 5 ?_;refine rret (is := []) () (Or.inl rfl) (Res.t rfl Res.d) ?_ rfl Ω;simp only [packV]; rw [right_t h6 (by simp at h26; omega) (by simpa using h21)]
theorem c_rRight (p : Patch) (y : Rp.Lay Patch) (hp : p.fit) : Con Tryz.prog 111 [sv p y] [] [slA y.1.1 p.deps, slA y.2.1 p.l, capA y.2.2 p.l.length] Unit (fun _ => .bool (p.right)) (fun _ => []) (fun _ => []) := by
 refine con func111 rfl ntmps111 rfl ?_;intro M0 F0 w0;refine k_ 2 ?_;refine ls (o_box rfl rfl rfl) ?_;refine le ?_; intro b1;refine k_ 5 ?_;have hdl := hp.dl; have hll := hp.ll;refine k_ 5 ?_;refine orX 4 7 11 rfl (sL [0, 1, 2]) ?_ ?_
 ·intro h7;refine k_ 4 ?_;refine ln (nmid (wk0 Φ Ω))
 apply exI
 ·intro h7;refine k_ 4 ?_;refine ln (nmid (wk0 Φ Ω))
 ·
  refine k_ 1 ?_;refine orX 5 12 17 rfl (sL [0, 1, 2]) ?_ ?_
  ·intro h12;refine k_ 5 ?_;refine ln (nmid (wk0 Φ Ω))
  apply exI
  ·intro h12;refine k_ 2 ?_;refine lwant rfl rfl rfl rfl (o_call (is := []) call166 (c_refLine p.note hp.nb) rfl rfl Ω rfl) ?_;refine le ?_; intro x15;refine k_ 2 ?_;refine ln (nmid (wk0 Φ Ω))
  ·
   refine k_ 1 ?_;refine orX 5 18 23 rfl (sL [0, 1, 2]) ?_ ?_
   ·intro h18;refine k_ 5 ?_;refine ln (nmid (wk0 Φ Ω))
   apply exI
   ·intro h18;refine k_ 5 ?_;refine ln (nmid (wk0 Φ Ω))
   ·
    refine k_ 1 ?_;refine orX 5 24 29 rfl (sL [0, 1, 2]) ?_ ?_
    ·intro h24;refine k_ 5 ?_;refine ln (nmid (wk0 Φ Ω))
    apply exI
    ·intro h24;refine k_ 5 ?_;refine ln (nmid (wk0 Φ Ω))
    ·
     refine k_ 1 ?_;refine orX 5 30 35 rfl (sL [0, 1, 2]) ?_ ?_
     ·intro h30;refine k_ 5 ?_;refine ln (nmid (wk0 Φ Ω))
     apply exI
     ·intro h30;refine k_ 5 ?_;refine ln (nmid (wk0 Φ Ω))
     ·
      refine k_ 2 ?_;refine cc rfl ?_ ?_
      ·intro h35;(try simp only [nrmZ] at h35);refine k_ 7 ?_;refine rret (is := []) () (Or.inl rfl) (Res.t rfl Res.d) ?_ rfl Ω;simp only [packV]; rw [right_g1 h35]
      ·intro h35;(try simp only [nrmZ] at h35);refine k_ 9 ?_;refine cl (ι := {q : Nat × Int // q.1 ≤ p.deps.length ∧ depsOk p.id 0 p.deps = depsOk p.id q.2 (p.deps.drop q.1) ∧ 0 ≤ q.2 ∧ (q.1 = 0 → q.2 = 0) ∧ (0 < q.1 → p.deps[q.1 - 1]? = some q.2)}) (fun i => St M0 F0 w0 88 [(1, pT b1), (3, .int .i64 (i.1.1 : Int))] [box b1 99 (Rp.enc p y)] [slA y.1.1 p.deps, slA y.2.1 p.l, capA y.2.2 p.l.length]) (fun i => p.deps.length - i.1.1) ⟨(0, 0), Nat.zero_le _, by simp, by simp, fun _ => rfl, fun h => by simp at h⟩ (wk0 Φ Ω) ?_;rintro ⟨⟨k, la⟩, hk, hkk, hz, hz0, hs⟩;refine cmono (S' := St M0 F0 w0 88 [(1, pT b1), (3, .int .i64 (k : Int))] [box b1 99 (Rp.enc p y)] [slA y.1.1 p.deps, slA y.2.1 p.l, capA y.2.2 p.l.length]) Ħ ?_;refine k_ 10 ?_;refine cc rfl ?_ ?_
       ·intro h40;dsimp only at hk hkk hz hz0 hs;(try simp only [nrmZ] at h40);have hk1 : k < p.deps.length := (by omega);rw [depsOk_drop hk1] at hkk;refine k_ 5 ?_;have hcase : (p.deps[k] < 1) ∨ (¬ p.deps[k] < 1 ∧ 1000000000 < p.deps[k]) ∨ (¬ p.deps[k] < 1 ∧ ¬ 1000000000 < p.deps[k] ∧ p.deps[k] = p.id) ∨ (¬ p.deps[k] < 1 ∧ ¬ 1000000000 < p.deps[k] ∧ ¬ p.deps[k] = p.id ∧ k = 0) ∨ (¬ p.deps[k] < 1 ∧ ¬ 1000000000 < p.deps[k] ∧ ¬ p.deps[k] = p.id ∧ 0 < k ∧ p.deps[k] ≤ la) ∨ (¬ p.deps[k] < 1 ∧ ¬ 1000000000 < p.deps[k] ∧ ¬ p.deps[k] = p.id ∧ 0 < k ∧ ¬ p.deps[k] ≤ la) := (by omega);rcases hcase with g1 | ⟨g1, g2⟩ | ⟨g1, g2, g3⟩ | ⟨g1, g2, g3, g4⟩ | ⟨g1, g2, g3, g4, g5⟩ | ⟨g1, g2, g3, g4, g5⟩
        ·
         refine elC Θ k (List.getElem?_eq_getElem (l := p.deps) hk1) ?_; rintro zbp zop zyp hAp;refine cd [] [(1, b1, 2, _), (4, zbp, zop + k * Rp.size Int, _)] TryzX.mixed (tB 1 (TOk.t (isInS Θ (k := 0) rfl (z := 1) Δ) TOk.d)) ?_;refine u_ 0 3 ?_;refine tk 3 rfl Ψ Υ gnone (TTany _) (p_ia k hAp hk1 rfl underlying61 sizeOf3 rfl rfl) rfl ?_;refine u_ 4 2 ?_;rw [show decide (p.deps[k] < 1) = true from decide_eq_true g1];refine u_ 6 22 ?_;refine tksu 28 rfl Ψ Υ rfl rfl rfl rfl ?_;refine tksu 29 rfl Ψ Υ rfl rfl rfl rfl ?_;refine tksu 30 rfl Ψ Υ rfl rfl rfl rfl ?_;refine tksu 31 rfl Ψ Υ rfl rfl rfl rfl ?_;refine tksu 32 rfl Ψ Υ rfl rfl rfl rfl ?_;refine tksu 33 rfl Ψ Υ rfl rfl rfl rfl ?_;refine tksu 34 rfl Ψ Υ rfl rfl rfl rfl ?_;refine tksu 35 rfl Ψ Υ rfl rfl rfl rfl ?_;refine tksu 36 rfl Ψ Υ rfl rfl rfl rfl ?_;refine tksu 37 rfl Ψ Υ rfl rfl rfl rfl ?_;refine tksu 38 rfl Ψ Υ rfl rfl rfl rfl ?_;refine tksu 39 rfl Ψ Υ rfl rfl rfl rfl ?_;refine u_ 40 2 ?_;refine dn Ψ ?_;refine k_ 1 ?_;refine cc rfl (fun h => ?_) (fun h => by cases h);refine k_ 7 ?_;refine rret (is := []) () (Or.inl rfl) (Res.t rfl Res.d) ?_ rfl Ω;simp only [packV]; rw [right_f3 (by rw [hkk]; grind)]
        ·
         refine elC Θ k (List.getElem?_eq_getElem (l := p.deps) hk1) ?_; rintro zbp zop zyp hAp;refine cd [] [(1, b1, 2, _), (4, zbp, zop + k * Rp.size Int, _), (8, b1, 2, _), (11, zbp, zop + k * Rp.size Int, _)] TryzX.mixed (tB 1 (TOk.t (isInS Θ (k := 0) rfl (z := 1) Δ) (tB 1 (TOk.t (isInS Θ (k := 0) rfl (z := 1) Δ) TOk.d)))) ?_;refine u_ 0 3 ?_;refine tk 3 rfl Ψ Υ gnone (TTany _) (p_ia k hAp hk1 rfl underlying61 sizeOf3 rfl rfl) rfl ?_;refine u_ 4 2 ?_;rw [show decide (p.deps[k] < 1) = false from decide_eq_false g1];refine u_ 6 2 ?_;refine tk 8 rfl Ψ Υ (gyes rfl rfl rfl rfl) (TTat (mT (mT (List.Mem.head _)))) (gpu (p_ld isAgg61 rfl)) rfl ?_;refine u_ 9 1 ?_;refine tk 10 rfl Ψ Υ (gyes rfl rfl rfl rfl) (TTany _) (gpu (p_ia k hAp hk1 rfl underlying61 sizeOf3 rfl rfl)) rfl ?_;refine tk 11 rfl Ψ Υ (gyes rfl rfl rfl rfl) (TTat (mT (mT (mT (List.Mem.head _))))) (gpu (p_ld isAgg3 rfl)) rfl ?_;refine u_ 12 1 ?_;rw [show decide ((1000000000 : Int) < p.deps[k]) = true from decide_eq_true g2];refine u_ 13 15 ?_;refine tksu 28 rfl Ψ Υ rfl rfl rfl rfl ?_;refine tksu 29 rfl Ψ Υ rfl rfl rfl rfl ?_;refine tksu 30 rfl Ψ Υ rfl rfl rfl rfl ?_;refine tksu 31 rfl Ψ Υ rfl rfl rfl rfl ?_;refine tksu 32 rfl Ψ Υ rfl rfl rfl rfl ?_;refine tksu 33 rfl Ψ Υ rfl rfl rfl rfl ?_;refine tksu 34 rfl Ψ Υ rfl rfl rfl rfl ?_;refine tksu 35 rfl Ψ Υ rfl rfl rfl rfl ?_;refine tksu 36 rfl Ψ Υ rfl rfl rfl rfl ?_;refine tksu 37 rfl Ψ Υ rfl rfl rfl rfl ?_;refine tksu 38 rfl Ψ Υ rfl rfl rfl rfl ?_;refine tksu 39 rfl Ψ Υ rfl rfl rfl rfl ?_;refine u_ 40 2 ?_;refine dn Ψ ?_;refine k_ 1 ?_;refine cc rfl (fun h => ?_) (fun h => by cases h);refine k_ 7 ?_;refine rret (is := []) () (Or.inl rfl) (Res.t rfl Res.d) ?_ rfl Ω;simp only [packV]; rw [right_f3 (by rw [hkk]; grind)]
        ·
         refine elC Θ k (List.getElem?_eq_getElem (l := p.deps) hk1) ?_; rintro zbp zop zyp hAp;refine cd [] [(1, b1, 2, _), (4, zbp, zop + k * Rp.size Int, _), (8, b1, 2, _), (11, zbp, zop + k * Rp.size Int, _), (16, b1, 2, _), (19, zbp, zop + k * Rp.size Int, _), (21, b1, 0, _)] TryzX.mixed (tB 1 (TOk.t (isInS Θ (k := 0) rfl (z := 1) Δ) (tB 1 (TOk.t (isInS Θ (k := 0) rfl (z := 1) Δ) (tB 1 (TOk.t (isInS Θ (k := 0) rfl (z := 1) Δ) (tB 1 TOk.d))))))) ?_;refine u_ 0 3 ?_;refine tk 3 rfl Ψ Υ gnone (TTany _) (p_ia k hAp hk1 rfl underlying61 sizeOf3 rfl rfl) rfl ?_;refine u_ 4 2 ?_;rw [show decide (p.deps[k] < 1) = false from decide_eq_false g1];refine u_ 6 2 ?_;refine tk 8 rfl Ψ Υ (gyes rfl rfl rfl rfl) (TTat (mT (mT (List.Mem.head _)))) (gpu (p_ld isAgg61 rfl)) rfl ?_;refine u_ 9 1 ?_;refine tk 10 rfl Ψ Υ (gyes rfl rfl rfl rfl) (TTany _) (gpu (p_ia k hAp hk1 rfl underlying61 sizeOf3 rfl rfl)) rfl ?_;refine tk 11 rfl Ψ Υ (gyes rfl rfl rfl rfl) (TTat (mT (mT (mT (List.Mem.head _))))) (gpu (p_ld isAgg3 rfl)) rfl ?_;refine u_ 12 1 ?_;rw [show decide ((1000000000 : Int) < p.deps[k]) = false from decide_eq_false g2];refine u_ 13 3 ?_;refine tk 16 rfl Ψ Υ (gyes rfl rfl rfl rfl) (TTat (mT (mT (mT (mT (List.Mem.head _)))))) (gpu (p_ld isAgg61 rfl)) rfl ?_;refine u_ 17 1 ?_;refine tk 18 rfl Ψ Υ (gyes rfl rfl rfl rfl) (TTany _) (gpu (p_ia k hAp hk1 rfl underlying61 sizeOf3 rfl rfl)) rfl ?_;refine tk 19 rfl Ψ Υ (gyes rfl rfl rfl rfl) (TTat (mT (mT (mT (mT (mT (List.Mem.head _))))))) (gpu (p_ld isAgg3 rfl)) rfl ?_;refine u_ 20 1 ?_;refine tk 21 rfl Ψ Υ (gyes rfl rfl rfl rfl) (TTat (mT (mT (mT (mT (mT (mT (List.Mem.head _)))))))) (gpu (p_ld isAgg3 rfl)) rfl ?_;refine u_ 22 1 ?_;rw [show decide (p.deps[k] = p.id) = true from decide_eq_true g3];refine u_ 23 5 ?_;refine tksu 28 rfl Ψ Υ rfl rfl rfl rfl ?_;refine tksu 29 rfl Ψ Υ rfl rfl rfl rfl ?_;refine tksu 30 rfl Ψ Υ rfl rfl rfl rfl ?_;refine tksu 31 rfl Ψ Υ rfl rfl rfl rfl ?_;refine tksu 32 rfl Ψ Υ rfl rfl rfl rfl ?_;refine tksu 33 rfl Ψ Υ rfl rfl rfl rfl ?_;refine tksu 34 rfl Ψ Υ rfl rfl rfl rfl ?_;refine tksu 35 rfl Ψ Υ rfl rfl rfl rfl ?_;refine tksu 36 rfl Ψ Υ rfl rfl rfl rfl ?_;refine tksu 37 rfl Ψ Υ rfl rfl rfl rfl ?_;refine tksu 38 rfl Ψ Υ rfl rfl rfl rfl ?_;refine tksu 39 rfl Ψ Υ rfl rfl rfl rfl ?_;refine u_ 40 2 ?_;refine dn Ψ ?_;refine k_ 1 ?_;refine cc rfl (fun h => ?_) (fun h => by cases h);refine k_ 7 ?_;refine rret (is := []) () (Or.inl rfl) (Res.t rfl Res.d) ?_ rfl Ω;simp only [packV]; rw [right_f3 (by rw [hkk]; grind)]
        ·
         refine elC Θ k (List.getElem?_eq_getElem (l := p.deps) hk1) ?_; rintro zbp zop zyp hAp;refine cd [] [(1, b1, 2, _), (4, zbp, zop + k * Rp.size Int, _), (8, b1, 2, _), (11, zbp, zop + k * Rp.size Int, _), (16, b1, 2, _), (19, zbp, zop + k * Rp.size Int, _), (21, b1, 0, _)] TryzX.mixed (tB 1 (TOk.t (isInS Θ (k := 0) rfl (z := 1) Δ) (tB 1 (TOk.t (isInS Θ (k := 0) rfl (z := 1) Δ) (tB 1 (TOk.t (isInS Θ (k := 0) rfl (z := 1) Δ) (tB 1 TOk.d))))))) ?_;refine u_ 0 3 ?_;refine tk 3 rfl Ψ Υ gnone (TTany _) (p_ia k hAp hk1 rfl underlying61 sizeOf3 rfl rfl) rfl ?_;refine u_ 4 2 ?_;rw [show decide (p.deps[k] < 1) = false from decide_eq_false g1];refine u_ 6 2 ?_;refine tk 8 rfl Ψ Υ (gyes rfl rfl rfl rfl) (TTat (mT (mT (List.Mem.head _)))) (gpu (p_ld isAgg61 rfl)) rfl ?_;refine u_ 9 1 ?_;refine tk 10 rfl Ψ Υ (gyes rfl rfl rfl rfl) (TTany _) (gpu (p_ia k hAp hk1 rfl underlying61 sizeOf3 rfl rfl)) rfl ?_;refine tk 11 rfl Ψ Υ (gyes rfl rfl rfl rfl) (TTat (mT (mT (mT (List.Mem.head _))))) (gpu (p_ld isAgg3 rfl)) rfl ?_;refine u_ 12 1 ?_;rw [show decide ((1000000000 : Int) < p.deps[k]) = false from decide_eq_false g2];refine u_ 13 3 ?_;refine tk 16 rfl Ψ Υ (gyes rfl rfl rfl rfl) (TTat (mT (mT (mT (mT (List.Mem.head _)))))) (gpu (p_ld isAgg61 rfl)) rfl ?_;refine u_ 17 1 ?_;refine tk 18 rfl Ψ Υ (gyes rfl rfl rfl rfl) (TTany _) (gpu (p_ia k hAp hk1 rfl underlying61 sizeOf3 rfl rfl)) rfl ?_;refine tk 19 rfl Ψ Υ (gyes rfl rfl rfl rfl) (TTat (mT (mT (mT (mT (mT (List.Mem.head _))))))) (gpu (p_ld isAgg3 rfl)) rfl ?_;refine u_ 20 1 ?_;refine tk 21 rfl Ψ Υ (gyes rfl rfl rfl rfl) (TTat (mT (mT (mT (mT (mT (mT (List.Mem.head _)))))))) (gpu (p_ld isAgg3 rfl)) rfl ?_;refine u_ 22 1 ?_;rw [show decide (p.deps[k] = p.id) = false from decide_eq_false g3];refine u_ 23 4 ?_;rw [show decide ((0 : Int) < (k : Int)) = false from decide_eq_false (by omega)];refine u_ 27 15 ?_;refine dn Ψ ?_;refine k_ 1 ?_;refine cc rfl (fun h => by cases h) (fun h => ?_);refine k_ 8 ?_;refine nnext ⟨(k + 1, p.deps[k]), hk1, by rw [hkk]; grind, by dsimp only; omega, fun h => by simp at h, fun _ => List.getElem?_eq_getElem hk1⟩ (by dsimp only; omega) (wk0 Φ Ω)
        ·
         have hk2 := hs g4;refine elC Θ (k - 1) (hk2) ?_; rintro zbq zoq zyq hAq;refine elC Θ k (List.getElem?_eq_getElem (l := p.deps) hk1) ?_; rintro zbp zop zyp hAp;refine cd [] [(1, b1, 2, _), (4, zbp, zop + k * Rp.size Int, _), (8, b1, 2, _), (11, zbp, zop + k * Rp.size Int, _), (16, b1, 2, _), (19, zbp, zop + k * Rp.size Int, _), (21, b1, 0, _), (29, b1, 2, _), (32, zbp, zop + k * Rp.size Int, _), (34, b1, 2, _), (38, zbq, zoq + (k - 1) * Rp.size Int, _)] TryzX.mixed (tB 1 (TOk.t (isInS Θ (k := 0) rfl (z := 1) Δ) (tB 1 (TOk.t (isInS Θ (k := 0) rfl (z := 1) Δ) (tB 1 (TOk.t (isInS Θ (k := 0) rfl (z := 1) Δ) (tB 1 (tB 1 (TOk.t (isInS Θ (k := 0) rfl (z := 1) Δ) (tB 1 (TOk.t (isInS Θ (k := 0) rfl (z := 1) Δ) TOk.d))))))))))) ?_;refine u_ 0 3 ?_;refine tk 3 rfl Ψ Υ gnone (TTany _) (p_ia k hAp hk1 rfl underlying61 sizeOf3 rfl rfl) rfl ?_;refine u_ 4 2 ?_;rw [show decide (p.deps[k] < 1) = false from decide_eq_false g1];refine u_ 6 2 ?_;refine tk 8 rfl Ψ Υ (gyes rfl rfl rfl rfl) (TTat (mT (mT (List.Mem.head _)))) (gpu (p_ld isAgg61 rfl)) rfl ?_;refine u_ 9 1 ?_;refine tk 10 rfl Ψ Υ (gyes rfl rfl rfl rfl) (TTany _) (gpu (p_ia k hAp hk1 rfl underlying61 sizeOf3 rfl rfl)) rfl ?_;refine tk 11 rfl Ψ Υ (gyes rfl rfl rfl rfl) (TTat (mT (mT (mT (List.Mem.head _))))) (gpu (p_ld isAgg3 rfl)) rfl ?_;refine u_ 12 1 ?_;rw [show decide ((1000000000 : Int) < p.deps[k]) = false from decide_eq_false g2];refine u_ 13 3 ?_;refine tk 16 rfl Ψ Υ (gyes rfl rfl rfl rfl) (TTat (mT (mT (mT (mT (List.Mem.head _)))))) (gpu (p_ld isAgg61 rfl)) rfl ?_;refine u_ 17 1 ?_;refine tk 18 rfl Ψ Υ (gyes rfl rfl rfl rfl) (TTany _) (gpu (p_ia k hAp hk1 rfl underlying61 sizeOf3 rfl rfl)) rfl ?_;refine tk 19 rfl Ψ Υ (gyes rfl rfl rfl rfl) (TTat (mT (mT (mT (mT (mT (List.Mem.head _))))))) (gpu (p_ld isAgg3 rfl)) rfl ?_;refine u_ 20 1 ?_;refine tk 21 rfl Ψ Υ (gyes rfl rfl rfl rfl) (TTat (mT (mT (mT (mT (mT (mT (List.Mem.head _)))))))) (gpu (p_ld isAgg3 rfl)) rfl ?_;refine u_ 22 1 ?_;rw [show decide (p.deps[k] = p.id) = false from decide_eq_false g3];refine u_ 23 4 ?_;rw [show decide ((0 : Int) < (k : Int)) = true from decide_eq_true (by omega)];refine u_ 27 2 ?_;refine tk 29 rfl Ψ Υ (gyes rfl rfl rfl rfl) (TTat (mT (mT (mT (mT (mT (mT (mT (List.Mem.head _))))))))) (gpu (p_ld isAgg61 rfl)) rfl ?_;refine u_ 30 1 ?_;refine tk 31 rfl Ψ Υ (gyes rfl rfl rfl rfl) (TTany _) (gpu (p_ia k hAp hk1 rfl underlying61 sizeOf3 rfl rfl)) rfl ?_;refine tk 32 rfl Ψ Υ (gyes rfl rfl rfl rfl) (TTat (mT (mT (mT (mT (mT (mT (mT (mT (List.Mem.head _)))))))))) (gpu (p_ld isAgg3 rfl)) rfl ?_;refine u_ 33 1 ?_;refine tk 34 rfl Ψ Υ (gyes rfl rfl rfl rfl) (TTat (mT (mT (mT (mT (mT (mT (mT (mT (mT (List.Mem.head _))))))))))) (gpu (p_ld isAgg61 rfl)) rfl ?_;refine u_ 35 2 ?_;refine tk 37 rfl Ψ Υ (gyes rfl rfl rfl rfl) (TTany _) (gpu (p_ia (k - 1) hAq (by omega) (by omega) underlying61 sizeOf3 rfl rfl)) rfl ?_;refine tk 38 rfl Ψ Υ (gyes rfl rfl rfl rfl) (TTat (mT (mT (mT (mT (mT (mT (mT (mT (mT (mT (List.Mem.head _)))))))))))) (gpu (p_ld isAgg3 rfl)) rfl ?_;refine u_ 39 1 ?_;rw [show decide (p.deps[k] ≤ la) = true from decide_eq_true g5];refine u_ 40 2 ?_;refine dn Ψ ?_;refine k_ 1 ?_;refine cc rfl (fun h => ?_) (fun h => by cases h);refine k_ 7 ?_;refine rret (is := []) () (Or.inl rfl) (Res.t rfl Res.d) ?_ rfl Ω;simp only [packV]; rw [right_f3 (by rw [hkk]; grind)]
        ·
         have hk2 := hs g4;refine elC Θ (k - 1) (hk2) ?_; rintro zbq zoq zyq hAq;refine elC Θ k (List.getElem?_eq_getElem (l := p.deps) hk1) ?_; rintro zbp zop zyp hAp;refine cd [] [(1, b1, 2, _), (4, zbp, zop + k * Rp.size Int, _), (8, b1, 2, _), (11, zbp, zop + k * Rp.size Int, _), (16, b1, 2, _), (19, zbp, zop + k * Rp.size Int, _), (21, b1, 0, _), (29, b1, 2, _), (32, zbp, zop + k * Rp.size Int, _), (34, b1, 2, _), (38, zbq, zoq + (k - 1) * Rp.size Int, _)] TryzX.mixed (tB 1 (TOk.t (isInS Θ (k := 0) rfl (z := 1) Δ) (tB 1 (TOk.t (isInS Θ (k := 0) rfl (z := 1) Δ) (tB 1 (TOk.t (isInS Θ (k := 0) rfl (z := 1) Δ) (tB 1 (tB 1 (TOk.t (isInS Θ (k := 0) rfl (z := 1) Δ) (tB 1 (TOk.t (isInS Θ (k := 0) rfl (z := 1) Δ) TOk.d))))))))))) ?_;refine u_ 0 3 ?_;refine tk 3 rfl Ψ Υ gnone (TTany _) (p_ia k hAp hk1 rfl underlying61 sizeOf3 rfl rfl) rfl ?_;refine u_ 4 2 ?_;rw [show decide (p.deps[k] < 1) = false from decide_eq_false g1];refine u_ 6 2 ?_;refine tk 8 rfl Ψ Υ (gyes rfl rfl rfl rfl) (TTat (mT (mT (List.Mem.head _)))) (gpu (p_ld isAgg61 rfl)) rfl ?_;refine u_ 9 1 ?_;refine tk 10 rfl Ψ Υ (gyes rfl rfl rfl rfl) (TTany _) (gpu (p_ia k hAp hk1 rfl underlying61 sizeOf3 rfl rfl)) rfl ?_;refine tk 11 rfl Ψ Υ (gyes rfl rfl rfl rfl) (TTat (mT (mT (mT (List.Mem.head _))))) (gpu (p_ld isAgg3 rfl)) rfl ?_;refine u_ 12 1 ?_;rw [show decide ((1000000000 : Int) < p.deps[k]) = false from decide_eq_false g2];refine u_ 13 3 ?_;refine tk 16 rfl Ψ Υ (gyes rfl rfl rfl rfl) (TTat (mT (mT (mT (mT (List.Mem.head _)))))) (gpu (p_ld isAgg61 rfl)) rfl ?_;refine u_ 17 1 ?_;refine tk 18 rfl Ψ Υ (gyes rfl rfl rfl rfl) (TTany _) (gpu (p_ia k hAp hk1 rfl underlying61 sizeOf3 rfl rfl)) rfl ?_;refine tk 19 rfl Ψ Υ (gyes rfl rfl rfl rfl) (TTat (mT (mT (mT (mT (mT (List.Mem.head _))))))) (gpu (p_ld isAgg3 rfl)) rfl ?_;refine u_ 20 1 ?_;refine tk 21 rfl Ψ Υ (gyes rfl rfl rfl rfl) (TTat (mT (mT (mT (mT (mT (mT (List.Mem.head _)))))))) (gpu (p_ld isAgg3 rfl)) rfl ?_;refine u_ 22 1 ?_;rw [show decide (p.deps[k] = p.id) = false from decide_eq_false g3];refine u_ 23 4 ?_;rw [show decide ((0 : Int) < (k : Int)) = true from decide_eq_true (by omega)];refine u_ 27 2 ?_;refine tk 29 rfl Ψ Υ (gyes rfl rfl rfl rfl) (TTat (mT (mT (mT (mT (mT (mT (mT (List.Mem.head _))))))))) (gpu (p_ld isAgg61 rfl)) rfl ?_;refine u_ 30 1 ?_;refine tk 31 rfl Ψ Υ (gyes rfl rfl rfl rfl) (TTany _) (gpu (p_ia k hAp hk1 rfl underlying61 sizeOf3 rfl rfl)) rfl ?_;refine tk 32 rfl Ψ Υ (gyes rfl rfl rfl rfl) (TTat (mT (mT (mT (mT (mT (mT (mT (mT (List.Mem.head _)))))))))) (gpu (p_ld isAgg3 rfl)) rfl ?_;refine u_ 33 1 ?_;refine tk 34 rfl Ψ Υ (gyes rfl rfl rfl rfl) (TTat (mT (mT (mT (mT (mT (mT (mT (mT (mT (List.Mem.head _))))))))))) (gpu (p_ld isAgg61 rfl)) rfl ?_;refine u_ 35 2 ?_;refine tk 37 rfl Ψ Υ (gyes rfl rfl rfl rfl) (TTany _) (gpu (p_ia (k - 1) hAq (by omega) (by omega) underlying61 sizeOf3 rfl rfl)) rfl ?_;refine tk 38 rfl Ψ Υ (gyes rfl rfl rfl rfl) (TTat (mT (mT (mT (mT (mT (mT (mT (mT (mT (mT (List.Mem.head _)))))))))))) (gpu (p_ld isAgg3 rfl)) rfl ?_;refine u_ 39 1 ?_;rw [show decide (p.deps[k] ≤ la) = false from decide_eq_false g5];refine u_ 40 2 ?_;refine dn Ψ ?_;refine k_ 1 ?_;refine cc rfl (fun h => by cases h) (fun h => ?_);refine k_ 8 ?_;refine nnext ⟨(k + 1, p.deps[k]), hk1, by rw [hkk]; grind, by dsimp only; omega, fun h => by simp at h, fun _ => List.getElem?_eq_getElem hk1⟩ (by dsimp only; omega) (wk0 Φ Ω)
       ·intro h40;dsimp only at hk hkk hz hz0 hs;(try simp only [nrmZ] at h40);refine k_ 9 ?_;refine lC [] call62 (c_ref5Right p.l _ _ hp.ll hp.lf) ?_; intro x87;refine k_ 5 ?_;refine rret (is := []) () (Or.inl rfl) (Res.t rfl Res.d) ?_ rfl Ω;simp only [packV]; rw [right_g2 h35 (by rw [hkk, List.drop_eq_nil_of_le (by omega)]; rfl)]
theorem c_rOn (p : Patch) (y : Rp.Lay Patch) (hp : p.fit) (v : Int) : Con Tryz.prog 228 [sv p y, .int .i64 v] [] [slA y.1.1 p.deps, slA y.2.1 p.l, capA y.2.2 p.l.length] Unit (fun _ => .bool (p.deps.any fun s => decide (s = v))) (fun _ => []) (fun _ => []) := by
 refine con func228 rfl ntmps228 rfl ?_;intro M0 F0 w0;refine k_ 2 ?_;refine ls (o_box rfl rfl rfl) ?_;refine le ?_; intro b2;refine k_ 5 ?_;have hdl := hp.dl;refine k_ 5 ?_;refine cl (ι := {k : Nat // k ≤ p.deps.length ∧ ((p.deps.take k).any fun s => decide (s = v)) = false}) (fun i => St M0 F0 w0 20 [(1, .int .i64 v), (2, pT b2), (5, .int .i64 (i.1 : Int))] [box b2 99 (Rp.enc p y)] [slA y.1.1 p.deps, slA y.2.1 p.l, capA y.2.2 p.l.length]) (fun i => p.deps.length - i.1) ⟨0, by simp⟩ (wk0 Φ Ω) ?_;rintro ⟨k, hk, hkk⟩;refine cmono (S' := St M0 F0 w0 20 [(1, .int .i64 v), (2, pT b2), (5, .int .i64 (k : Int))] [box b2 99 (Rp.enc p y)] [slA y.1.1 p.deps, slA y.2.1 p.l, capA y.2.2 p.l.length]) Ħ ?_;refine k_ 10 ?_;refine cc rfl ?_ ?_
 ·intro h10;(try simp only [nrmZ] at h10);have hk1 : k < p.deps.length := (by omega);refine k_ 5 ?_;refine elC Θ k (List.getElem?_eq_getElem (l := p.deps) hk1) ?_; rintro zbp zop zyp hAp;refine k_ 4 ?_;refine ls (op (p_ia k hAp hk1 rfl underlying61 sizeOf3 rfl rfl) rfl) ?_;refine ls (o_ldi isAgg3 rfl Θ 0 rfl Δ rfl) ?_;refine k_ 4 ?_;refine cc rfl ?_ ?_
  ·intro h19;(try simp only [nrmZ] at h19);refine k_ 7 ?_;refine rret (is := []) () (Or.inl rfl) (Res.t rfl Res.d) ?_ rfl Ω;simp only [packV]; congr 1; symm; rw [List.any_eq_true]; exact ⟨_, List.getElem_mem hk1, by simp [h19]⟩
  ·intro h19;(try simp only [nrmZ] at h19);refine k_ 8 ?_;refine nnext ⟨k + 1, hk1, by rw [List.take_succ_eq_append_getElem hk1, List.any_append, hkk]; simp [h19]⟩ (by dsimp only; omega) (wk0 Φ Ω)
 ·intro h10;(try simp only [nrmZ] at h10);refine k_ 12 ?_;refine rret (is := []) () (Or.inl rfl) (Res.t rfl Res.d) ?_ rfl Ω;simp only [packV]; rw [List.take_of_length_le (by omega)] at hkk; rw [hkk]
theorem c_rSame (p q : Patch) (yp yq : Rp.Lay Patch) (hp : p.fit) (hq : q.fit) : Con Tryz.prog 95 [sv p yp, sv q yq] [] [slA yp.1.1 p.deps, slA yp.2.1 p.l, capA yp.2.2 p.l.length, slA yq.1.1 q.deps, slA yq.2.1 q.l, capA yq.2.2 q.l.length] Unit (fun _ => .bool (decide (p = q))) (fun _ => []) (fun _ => []) := by
 refine con func95 rfl ntmps95 rfl ?_;intro M0 F0 w0;refine k_ 2 ?_;refine ls (o_box rfl rfl rfl) ?_;refine le ?_; intro b2;refine ls (o_box rfl rfl rfl) ?_;refine le ?_; intro b3;refine k_ 5 ?_;have hdl := hp.dl;refine k_ 7 ?_;refine orX 6 11 17 rfl (sL [0, 1, 2, 3, 4]) ?_ ?_
 ·intro h11;refine k_ 6 ?_;refine ln (nmid (wk0 Φ Ω))
 apply exI
 ·intro h11;refine k_ 6 ?_;refine ln (nmid (wk0 Φ Ω))
 ·
  refine k_ 1 ?_;refine orX 8 18 26 rfl (sL [0, 1, 2, 3, 4]) ?_ ?_
  ·intro h18;refine k_ 8 ?_;refine ln (nmid (wk0 Φ Ω))
  apply exI
  ·intro h18;refine k_ 8 ?_;refine ln (nmid (wk0 Φ Ω))
  ·
   refine k_ 2 ?_;refine cc rfl ?_ ?_
   ·intro h26;(try simp only [nrmZ] at h26);refine k_ 7 ?_;refine rret (is := []) () (Or.inl rfl) (Res.t rfl Res.d) ?_ rfl Ω;simp only [packV]; rw [decide_eq_false (rsame_t h26)]
   ·intro h26;(try simp only [nrmZ] at h26);refine k_ 9 ?_;refine cl (ι := {k : Nat // k ≤ p.deps.length ∧ p.deps.take k = q.deps.take k}) (fun i => St M0 F0 w0 50 [(2, pT b2), (3, pT b3), (5, .int .i64 (i.1 : Int))] [box b2 99 (Rp.enc p yp), box b3 99 (Rp.enc q yq)] [slA yp.1.1 p.deps, slA yp.2.1 p.l, capA yp.2.2 p.l.length, slA yq.1.1 q.deps, slA yq.2.1 q.l, capA yq.2.2 q.l.length]) (fun i => p.deps.length - i.1) ⟨0, by simp⟩ (wK [1, 0]) ?_;rintro ⟨k, hk, hkk⟩;refine cmono (S' := St M0 F0 w0 50 [(2, pT b2), (3, pT b3), (5, .int .i64 (k : Int))] [box b2 99 (Rp.enc p yp), box b3 99 (Rp.enc q yq)] [slA yp.1.1 p.deps, slA yp.2.1 p.l, capA yp.2.2 p.l.length, slA yq.1.1 q.deps, slA yq.2.1 q.l, capA yq.2.2 q.l.length]) Ħ ?_;refine k_ 10 ?_;refine cc rfl ?_ ?_
    ·intro h31;(try simp only [nrmZ] at h31);have hsm := rsame_f h26;have hk1 : k < p.deps.length := (by omega);have hk2 : k < q.deps.length := (by omega);refine k_ 5 ?_;refine elC Θ k (List.getElem?_eq_getElem (l := p.deps) hk1) ?_; rintro zbp zop zyp hAp;refine elC Θ k (List.getElem?_eq_getElem (l := q.deps) hk2) ?_; rintro zbq zoq zyq hAq;refine cd [] [(1, b2, 2, _), (4, zbp, zop + k * Rp.size Int, _), (6, b3, 2, _), (9, zbq, zoq + k * Rp.size Int, _)] TryzX.mixed (tB 1 (TOk.t (isInS Θ (k := 0) rfl (z := 1) Δ) (tB 1 (TOk.t (isInS Θ (k := 0) rfl (z := 1) Δ) TOk.d)))) ?_;refine u_ 0 3 ?_;refine tk 3 rfl Ψ Υ gnone (TTany _) (p_ia k hAp hk1 rfl underlying61 sizeOf3 rfl rfl) rfl ?_;refine u_ 4 4 ?_;refine tk 8 rfl Ψ Υ gnone (TTany _) (p_ia k hAq hk2 rfl underlying61 sizeOf3 rfl rfl) rfl ?_;refine u_ 9 2 ?_;refine dn Ψ ?_;refine k_ 1 ?_;refine cc rfl ?_ ?_
     ·intro h44;(try simp only [nrmZ] at h44);refine k_ 7 ?_;refine rret (is := []) () (Or.inl rfl) (Res.t rfl Res.d) ?_ rfl Ω;simp only [packV]; rw [decide_eq_false]; rintro rfl; exact h44 rfl
     ·intro h44;(try simp only [nrmZ] at h44);refine k_ 8 ?_;refine nnext ⟨k + 1, hk1, by rw [List.take_succ_eq_append_getElem hk1, List.take_succ_eq_append_getElem hk2, hkk, h44]⟩ (by dsimp only; omega) (wk0 Φ Ω)
    ·intro h31;(try simp only [nrmZ] at h31);have hsm := rsame_f h26;refine k_ 11 ?_;refine lC [] call36 (c_refAllP p.l q.l _ _ _ _ hp.ll hp.lf) ?_; intro x49;refine k_ 5 ?_;refine rret (is := []) () (Or.inl rfl) (Res.t rfl Res.d) ?_ rfl Ω;simp only [packV]; rw [← dec_patch, hsm.1, hsm.2.1]; have e : p.deps = q.deps := (by have h1 := List.take_of_length_le (l := p.deps) (i := k) (by omega); have h2 := List.take_of_length_le (l := q.deps) (i := k) (by omega); rw [h1, h2] at hkk; exact hkk); simp [e]
theorem c_rAll (l m : List Patch) (A B : Option Addr) (c c' : Nat) (hl : l.length ≤ 2000000) (hf : ∀ x ∈ l, x.fit) (hm : ∀ x ∈ m, x.fit) : Con Tryz.prog 48 [.slice A l.length c, .slice B m.length c'] [] [slA A l, slA B m] Unit (fun _ => .bool (decide (l = m))) (fun _ => []) (fun _ => []) := by
 refine con func48 rfl ntmps48 rfl ?_;intro M0 F0 w0;refine k_ 15 ?_;refine cc rfl ?_ ?_
 ·intro h10;(try simp only [nrmZ] at h10);refine k_ 7 ?_;refine rret (is := []) () (Or.inl rfl) (Res.t rfl Res.d) ?_ rfl Ω;simp [packV]; intro e; rw [e] at h10; exact h10 rfl
 ·intro h10;(try simp only [nrmZ] at h10);refine k_ 9 ?_;refine cl (ι := {k : Nat // k ≤ l.length ∧ l.take k = m.take k}) (fun i => St M0 F0 w0 27 [(0, .slice A l.length c), (1, .slice B m.length c'), (5, .int .i64 (i.1 : Int))] [] [slA A l, slA B m]) (fun i => l.length - i.1) ⟨0, by simp⟩ (wk0 Φ Ω) ?_;rintro ⟨k, hk, hkk⟩;refine cmono (S' := St M0 F0 w0 27 [(0, .slice A l.length c), (1, .slice B m.length c'), (5, .int .i64 (k : Int))] [] [slA A l, slA B m]) Ħ ?_;refine k_ 9 ?_;refine cc rfl ?_ ?_
  ·intro h14;(try simp only [nrmZ] at h14);have hk1 : k < l.length := (by omega);have hk2 : k < m.length := (by omega);refine k_ 5 ?_;refine elC Θ k (List.getElem?_eq_getElem (l := l) hk1) ?_; rintro zbp zop zyp hAp;refine elC Θ k (List.getElem?_eq_getElem (l := m) hk2) ?_; rintro zbq zoq zyq hAq;refine cd [8] [(3, zbp, zop + k * Rp.size Patch, _), (7, zbq, zoq + k * Rp.size Patch, _)] TryzX.mixed (TOk.t (isInS Θ (k := 0) rfl (z := 4) Δ) (TOk.t (isInS Θ (k := 0) rfl (z := 4) Δ) TOk.d)) ?_;refine u_ 0 2 ?_;refine tk 2 rfl Ψ Υ gnone (TTany _) (p_ia k hAp hk1 rfl underlying23 sizeOf99 rfl rfl) rfl ?_;refine u_ 3 3 ?_;refine tk 6 rfl Ψ Υ gnone (TTany _) (p_ia k hAq hk2 rfl underlying23 sizeOf99 rfl rfl) rfl ?_;refine u_ 7 1 ?_;refine df 8 Ψ ?_;refine doR rfl (o_call (is := []) call95 (c_rSame l[k] m[k] zyp zyq (hf _ (List.getElem_mem hk1)) (hm _ (List.getElem_mem hk2))) rfl rfl Ω rfl) tX ?_;refine ea ?_; intro x25;refine u_ 9 1 ?_;refine dn Ψ ?_;refine k_ 1 ?_;refine cc rfl ?_ ?_
   ·intro h26;(try simp only [nrmZ] at h26);refine k_ 7 ?_;refine rret (is := []) () (Or.inl rfl) (Res.t rfl Res.d) ?_ rfl Ω;simp [packV]; rintro rfl; exact h26 rfl
   ·intro h26;(try simp only [nrmZ] at h26);refine k_ 8 ?_;refine nnext ⟨k + 1, hk1, by rw [List.take_succ_eq_append_getElem hk1, List.take_succ_eq_append_getElem hk2, hkk, h26]⟩ (by dsimp only; omega) (wK [])
  ·intro h14;(try simp only [nrmZ] at h14);refine k_ 12 ?_;refine rret (is := []) () (Or.inl rfl) (Res.t rfl Res.d) ?_ rfl Ω;simp [packV]; have := List.take_of_length_le (l := l) (i := k) (by omega); have := List.take_of_length_le (l := m) (i := k) (by omega); simp_all
abbrev PTwo (f : Patch × Patch × Bool) := { x : (Patch × Patch × Bool) × (Rp.Lay Patch × Rp.Lay Patch) // x.1 = f }
def PTwo.v {f} (x : PTwo f) : Value := .tuple #[sv x.1.1.1 x.1.2.1, sv x.1.1.2.1 x.1.2.2, .bool x.1.1.2.2]
def PTwo.g {f} (x : PTwo f) : List Asn := [slA x.1.2.1.1.1 x.1.1.1.deps, slA x.1.2.1.2.1 x.1.1.1.l, capA x.1.2.1.2.2 x.1.1.1.l.length, slA x.1.2.2.1.1 x.1.1.2.1.deps, slA x.1.2.2.2.1 x.1.1.2.1.l, capA x.1.2.2.2.2 x.1.1.2.1.l.length]
theorem may_t {p q : Patch} (h : (!p.right || !q.right || decide (p.id = q.id) || (q.deps.any fun s => decide (s = p.id)) || (p.deps.any fun s => decide (s = q.id))) = true) : pswap p q = (Patch.zero, Patch.zero, false) := by
 have : pmay p q = false := by
  unfold pmay;rw [Bool.eq_false_iff]; intro e;simp only [Bool.and_eq_true, Bool.not_eq_true'] at e;obtain ⟨⟨⟨⟨e1, e2⟩, e3⟩, e4⟩, e5⟩ := e;rw [e1, e2, e3, e4, e5] at h;simp at h
 unfold pswap;rw [this]; simp
theorem may_f {p q : Patch} (h : (!p.right || !q.right || decide (p.id = q.id) || (q.deps.any fun s => decide (s = p.id)) || (p.deps.any fun s => decide (s = q.id))) = false) : pmay p q = true := by
 unfold pmay;simp only [Bool.or_eq_false_iff, Bool.not_eq_false'] at h;obtain ⟨⟨⟨⟨e1, e2⟩, e3⟩, e4⟩, e5⟩ := h;rw [e1, e2, e3, e4, e5]; rfl
theorem may_t' {p q : Patch} (h : (!p.right || !q.right || decide (p.id = q.id) || (p.deps.any fun s => decide (s = q.id)) || (q.deps.any fun s => decide (s = p.id))) = true) : pswap p q = (Patch.zero, Patch.zero, false) := may_t (by
 rw [← h]; cases p.right <;> cases q.right <;> cases decide (p.id = q.id) <;> cases (p.deps.any fun s => decide (s = q.id)) <;> cases (q.deps.any fun s => decide (s = p.id)) <;> rfl)
theorem may_f' {p q : Patch} (h : (!p.right || !q.right || decide (p.id = q.id) || (p.deps.any fun s => decide (s = q.id)) || (q.deps.any fun s => decide (s = p.id))) = false) : pmay p q = true := may_f (by
 rw [← h]; cases p.right <;> cases q.right <;> cases decide (p.id = q.id) <;> cases (p.deps.any fun s => decide (s = q.id)) <;> cases (q.deps.any fun s => decide (s = p.id)) <;> rfl)
theorem pswap_f {p q : Patch} {f s : List Prim} (h : (f, s, false) = swT p.l q.l) : pswap p q = (Patch.zero, Patch.zero, false) := by
 unfold pswap; rw [← h]; simp
theorem pswap_t {p q : Patch} {f s : List Prim} (hm : pmay p q = true) (h : (f, s, true) = swT p.l q.l) : pswap p q = ({ q with l := f }, { p with l := s }, true) := by
 unfold pswap; rw [← h, hm]; simp
theorem may_ne {p q : Patch} (h : pmay p q = true) : p.l ≠ [] ∧ q.l ≠ [] := by
 unfold pmay at h;simp only [Bool.and_eq_true] at h;obtain ⟨⟨⟨⟨e1, e2⟩, _⟩, _⟩, _⟩ := h;unfold Patch.right at e1 e2;simp only [Bool.and_eq_true, decide_eq_true_eq] at e1 e2;constructor
 ·intro e; rw [e] at e1; simp at e1
 ·intro e; rw [e] at e2; simp at e2
theorem c_rSwap (p q : Patch) (yp yq : Rp.Lay Patch) (hp : p.fit) (hq : q.fit) : Con Tryz.prog 184 [sv p yp, sv q yq] [] [slA yp.1.1 p.deps, slA yp.2.1 p.l, capA yp.2.2 p.l.length, slA yq.1.1 q.deps, slA yq.2.1 q.l, capA yq.2.2 q.l.length] (PTwo (pswap p q)) (fun x => x.v) (fun _ => []) (fun x => x.g) := by
 refine con func184 rfl ntmps184 rfl ?_;intro M0 F0 w0;refine k_ 2 ?_;refine ls (o_box rfl rfl rfl) ?_;refine le ?_; intro b2;refine ls (o_box rfl rfl rfl) ?_;refine le ?_; intro b3;refine ls (o_alloc zeroValue99 rfl rfl) ?_;refine le ?_; intro b4;refine ls (o_alloc zeroValue99 rfl rfl) ?_;refine le ?_; intro b5;refine k_ 6 ?_;refine ls (o_ldw isAgg99 sizeOf99 rfl Θ (by rfl) rfl) ?_;refine lC [] call111 (c_rRight p yp hp) ?_; intro x11;refine k_ 2 ?_;refine orX 4 13 17 rfl (sL [0, 1, 2, 3, 4, 5, 6]) ?_ ?_
 ·intro h13;refine k_ 4 ?_;refine ln (nmid (wk0 Φ Ω))
 apply exI
 ·intro h13;refine lwant rfl rfl rfl rfl (o_ldw isAgg99 sizeOf99 rfl Θ (by rfl) rfl) ?_;refine lwant rfl rfl rfl rfl (o_call (is := []) call111 (c_rRight q yq hq) rfl rfl Ω rfl) ?_;refine le ?_; intro x15;refine k_ 2 ?_;refine ln (nmid (wk0 Φ Ω))
 ·
  refine k_ 1 ?_;refine orX 6 18 24 rfl (sL [0, 1, 2, 3, 4, 5, 6]) ?_ ?_
  ·intro h18;refine k_ 6 ?_;refine ln (nmid (wk0 Φ Ω))
  apply exI
  ·intro h18;refine k_ 6 ?_;refine ln (nmid (wk0 Φ Ω))
  ·
   refine k_ 1 ?_;refine orX 5 25 30 rfl (sL [0, 1, 2, 3, 4, 5, 6]) ?_ ?_
   ·intro h25;refine k_ 5 ?_;refine ln (nmid (wk0 Φ Ω))
   apply exI
   ·intro h25;refine lwant rfl rfl rfl rfl (o_ldw isAgg99 sizeOf99 rfl Θ (by rfl) rfl) ?_;refine k_ 2 ?_;refine lwant rfl rfl rfl rfl (o_call (is := []) call228 (c_rOn p yp hp q.id) rfl rfl Ω rfl) ?_;refine le ?_; intro x29;refine k_ 1 ?_;refine ln (nmid (wk0 Φ Ω))
   ·
    refine k_ 1 ?_;refine orX 5 31 36 rfl (sL [0, 1, 2, 3, 4, 5, 6]) ?_ ?_
    ·intro h31;refine k_ 5 ?_;refine ln (nmid (wk0 Φ Ω))
    apply exI
    ·intro h31;refine lwant rfl rfl rfl rfl (o_ldw isAgg99 sizeOf99 rfl Θ (by rfl) rfl) ?_;refine k_ 2 ?_;refine lwant rfl rfl rfl rfl (o_call (is := []) call228 (c_rOn q yq hq p.id) rfl rfl Ω rfl) ?_;refine le ?_; intro x35;refine k_ 1 ?_;refine ln (nmid (wk0 Φ Ω))
    ·
     refine k_ 2 ?_;refine cc rfl ?_ ?_
     ·intro h36;(try simp only [nrmZ] at h36);refine cs ?_;refine cmono (fun a w h => nilC (α := Prim) h) ?_;refine cmono (fun a w h => nilSl (α := Int) h) ?_;refine k_ 10 ?_;refine rret (is := []) ⟨((Patch.zero, Patch.zero, false), (((none, 0), (none, 0)), ((none, 0), (none, 0)))), by rw [may_t' h36]⟩ (Or.inl rfl) (Res.c rfl isAgg99 sizeOf99 Θ (by rfl) (Res.c rfl isAgg99 sizeOf99 Θ (by rfl) (Res.t rfl Res.d))) (rfl) rfl Ω
     ·intro h36;(try simp only [nrmZ] at h36);refine k_ 3 ?_;have hne := may_ne (may_f' h36);refine k_ 5 ?_;refine lC [] call227 (c_ref5Swap p.l q.l _ _ _ _ hp.ll hq.ll (fun h => absurd h hne.1) (fun h => absurd h hne.2) hp.lf hq.lf) ?_; rintro ⟨⟨⟨f, s, b3⟩, ⟨ya, yb⟩⟩, hr⟩;dsimp only at hr;refine k_ 16 ?_;refine cc rfl ?_ ?_
      ·intro h49;obtain rfl : false = b3 := (by cases b3 <;> first | rfl | (simp at h49))
       refine cs ?_;refine cmono (fun a w h => nilC (α := Prim) h) ?_;refine cmono (fun a w h => nilSl (α := Int) h) ?_;refine k_ 10 ?_;refine rret (is := []) ⟨((Patch.zero, Patch.zero, false), (((none, 0), (none, 0)), ((none, 0), (none, 0)))), by rw [pswap_f hr]⟩ (Or.inl rfl) (Res.c rfl isAgg99 sizeOf99 Θ (by rfl) (Res.c rfl isAgg99 sizeOf99 Θ (by rfl) (Res.t rfl Res.d))) (rfl) rfl Ω
      ·intro h49;obtain rfl : true = b3 := (by cases b3 <;> first | rfl | (simp at h49))
       refine k_ 3 ?_;refine cd [16, 17] [(1, b3, 0, _), (3, b3, 1, _), (5, b3, 2, _), (9, b2, 0, _), (11, b2, 1, _), (13, b2, 2, _)] TryzX.mixed (tB 1 (tB 1 (tB 1 (tB 1 (tB 1 (tB 1 TOk.d)))))) ?_;refine u_ 0 16 ?_;refine df 16 Ψ ?_;refine doR rfl (o_st rfl sizeOf99 rfl rfl rfl rfl rfl Θ Θ Θ) (TOk.x Ψ (TOk.x Ψ (TOk.x Ψ (tB 1 (tB 1 (tB 1 TOk.d)))))) ?_;refine df 17 Ψ ?_;refine doR rfl (o_st rfl sizeOf99 rfl rfl rfl rfl rfl Θ Θ Θ) tX ?_;refine u_ 18 1 ?_;refine dn Ψ ?_;refine k_ 3 ?_;refine rret (is := []) ⟨(({ q with l := f }, { p with l := s }, true), ((yq.1, ya), (yp.1, yb))), by rw [pswap_t (may_f' h36) hr]⟩ (Or.inl rfl) (Res.c rfl isAgg99 sizeOf99 Θ (by rfl) (Res.c rfl isAgg99 sizeOf99 Θ (by rfl) (Res.t rfl Res.d))) (rfl) rfl Ω
end Go.Proofs.YtbhnolfcdcpbkaaGreatDoor.X
end
section
namespace Go.Proofs.YtbhnolfcdcpbkaaGreatDoor.X
open Go Go.RowKit Go.Proofs Go.Sx
attribute [local irreducible] slA isA box row TrL TrC TrN TrA Pu OpR
set_option maxHeartbeats 8000000
end Go.Proofs.YtbhnolfcdcpbkaaGreatDoor.X
end
section
namespace Go.Proofs.YtbhnolfcdcpbkaaGreatDoor.X
set_option maxRecDepth 100000
open Go Go.RowKit Go.Proofs Go.Sx
open Tryz
attribute [local irreducible] slA isA box row TrL TrC TrN TrA Pu OpR
set_option maxHeartbeats 8000000
def Patch.many (p : Patch) : Nat := 1 + p.note.size + p.deps.length + Sx.many p.l
def pmany (l : List Patch) : Nat := (l.map Patch.many).sum
def ppre (l : List Patch) (k : Nat) : Nat := ((l.take k).map Patch.many).sum
theorem ppre_succ {l : List Patch} {k : Nat} (h : k < l.length) : ppre l (k + 1) = ppre l k + l[k].many := by
 unfold ppre;rw [List.take_succ_eq_append_getElem h, List.map_append, List.sum_append];simp only [List.map_cons, List.map_nil, List.sum_cons, List.sum_nil, Nat.add_zero]
theorem ppre_le (l : List Patch) (k : Nat) : ppre l k ≤ pmany l := by
 unfold ppre pmany;have := sum_take (l.map Patch.many) k;rw [← List.map_take] at this;exact this
theorem many_len (l : List Prim) : l.length ≤ many l := by unfold many; omega
def aA : Prim := ⟨1, ⟨#[97]⟩, ⟨#[]⟩, 0, [], []⟩
def aH : Prim := ⟨0, ⟨#[97]⟩, ⟨#[]⟩, 0, [], [⟨#[120]⟩]⟩
theorem fit_of {p : Prim} (h1 : p.old.length ≤ 2000000) (h2 : p.new.length ≤ 2000000) (h3 : p.name.size ≤ 2000000) (h4 : p.to.size ≤ 2000000) (h5 : p.old.all (fun s => decide (s.size ≤ 2000000)) = true) (h6 : p.new.all (fun s => decide (s.size ≤ 2000000)) = true) : p.fit :=
 ⟨h1, h2, h3, h4, (fun s h => by simpa using List.all_eq_true.1 h5 s h), (fun s h => by simpa using List.all_eq_true.1 h6 s h)⟩
theorem fitaA : aA.fit := fit_of (by decide) (by decide) (by decide) (by decide) (by decide) (by decide)
theorem fitaH : aH.fit := fit_of (by decide) (by decide) (by decide) (by decide) (by decide) (by decide)
theorem ptwo_eq {α β : Type} {a c : α} {b d : β} (h : (a, b) = (c, d)) : a = c ∧ b = d := by simpa using h
theorem c_Many7 (l : List Patch) (A : Option Addr) (c : Nat) (hl : l.length ≤ 2000000) (hf : ∀ x ∈ l, x.fit) (hM : pmany l ≤ 1000000000000) : Con Tryz.prog 12 [.slice A l.length c] [] [slA A l] Unit (fun _ => .int .i64 (pmany l : Int)) (fun _ => []) (fun _ => []) := by
 refine con func12 rfl ntmps12 rfl ?_;intro M0 F0 w0;refine k_ 19 ?_;refine cl (ι := {q : Nat × Int // q.1 ≤ l.length ∧ q.2 = (ppre l q.1 : Nat)}) (fun i => St M0 F0 w0 28 [(6, .slice A l.length c), (7, .int .i64 (l.length : Int)), (8, .int .i64 (i.1.1 : Int)), (3, .int .i64 i.1.2)] [] [slA A l]) (fun i => l.length - i.1.1) ⟨(0, 0), by simp [ppre]⟩ (wk0 Φ Ω) ?_;rintro ⟨⟨k, n⟩, hk, hn⟩;refine cmono (S' := St M0 F0 w0 28 [(6, .slice A l.length c), (7, .int .i64 (l.length : Int)), (8, .int .i64 (k : Int)), (3, .int .i64 n)] [] [slA A l]) Ħ ?_;refine k_ 6 ?_;refine cc rfl ?_ ?_
 ·intro h9;dsimp only at hk hn;(try simp only [nrmZ] at h9);have hk1 : k < l.length := (by omega);have hs := ppre_succ hk1;have ht := ppre_le l (k + 1);have hu : l[k].many = 1 + l[k].note.size + l[k].deps.length + many l[k].l := rfl;refine k_ 5 ?_;refine elC Θ k (List.getElem?_eq_getElem (l := l) hk1) ?_; rintro zbp zop zyp hAp;refine cr ?_;refine ls (op (p_ia k hAp hk1 rfl underlying23 sizeOf99 rfl rfl) rfl) ?_;refine ls (o_ldj isAgg99 sizeOf99 rfl Θ 0 rfl Δ rfl) ?_;refine ls (o_alloc zeroValue99 rfl rfl) ?_;refine le ?_; intro b5;refine k_ 3 ?_;refine cdB [11] [(2, b5, 1, _), (6, b5, 2, _), (10, b5, 3, _)] TryzX.mixed Ψ Ψ (tB 1 (tB 1 (tB 1 TOk.d))) ?_;refine t_ 0 11 ?_;refine dfB 11 Ψ ?_;refine doRB rfl (o_call (is := []) call13 (c_Many l[k].l _ _ (hf _ (List.getElem_mem hk1)).ll (by omega)) rfl rfl Ω rfl) (TOk.t (isBoxE fun _ => isBoxS Θ (k := 1) Δ) (TOk.t (isBoxE fun _ => isBoxS Θ (k := 1) Δ) (TOk.xP 11 [] Ψ TOk.d))) ?_;refine eaB ?_; intro x23;refine t_ 12 3 ?_;refine dnB Ψ ?_;refine k_ 6 ?_;refine nnext ⟨(k + 1, n + (((1 + (l[k].note.size : Int)) + l[k].deps.length) + (many l[k].l : Int))), hk1, by dsimp only; omega⟩ (by dsimp only; omega) (wK [])
 ·intro h9;dsimp only at hk hn;(try simp only [nrmZ] at h9);obtain rfl : k = l.length := (by omega);refine k_ 13 ?_;refine rret (is := []) () (Or.inl rfl) (Res.t rfl Res.d) ?_ rfl Ω;simp only [packV]; rw [hn]; unfold ppre pmany; rw [List.take_length]
end Go.Proofs.YtbhnolfcdcpbkaaGreatDoor.X
end
section
namespace Go.Proofs.YtbhnolfcdcpbkaaGreatDoor.X
open Go Go.RowKit Go.Proofs Go.Sx
/-! Patches, and what they make of trees. -/
def pl (l : List Patch) : List Prim := (l.map Patch.l).flatten
theorem pl_cons (p : Patch) (l : List Patch) : pl (p :: l) = p.l ++ pl l := rfl
theorem pl_app (a b : List Patch) : pl (a ++ b) = pl a ++ pl b := by unfold pl; rw [List.map_append, List.flatten_append]
theorem pl_one (p : Patch) : pl [p] = p.l := by show p.l ++ [] = _; rw [List.append_nil]
inductive SwR : List Prim → List Prim → Prop
 | refl {a} : SwR a a
 | step {a x l m f s y} : SwR a (x ++ (l ++ m) ++ y) → (f, s, true) = swT l m → SwR a (x ++ (f ++ s) ++ y)
theorem SwR.trans {a b c : List Prim} (h : SwR a b) (k : SwR b c) : SwR a c := by
 induction k with
 | refl => exact h
 | step _ e ih => exact .step ih e
theorem SwR.ctx {a b : List Prim} (h : SwR a b) (u v : List Prim) : SwR (u ++ a ++ v) (u ++ b ++ v) := by
 induction h with
 | refl => exact .refl
 | @step x l m f s y _ e ih =>
  have e1 : u ++ (x ++ (l ++ m) ++ y) ++ v = (u ++ x) ++ (l ++ m) ++ (y ++ v) := by simp only [List.append_assoc]
  have e2 : u ++ (x ++ (f ++ s) ++ y) ++ v = (u ++ x) ++ (f ++ s) ++ (y ++ v) := by simp only [List.append_assoc]
  rw [e1] at ih;rw [e2];exact .step ih e
theorem SwR.one {l m f s : List Prim} (e : (f, s, true) = swT l m) : SwR (l ++ m) (f ++ s) := by
 have h : SwR (l ++ m) ([] ++ (l ++ m) ++ []) := by rw [List.append_nil, List.nil_append]; exact .refl
 have := h.step e
 rwa [List.append_nil, List.nil_append] at this
theorem SwR.runs {a b : List Prim} (h : SwR a b) {T U : List File} (hS : Sor T) (hr : Runs T a U) : Runs T b U := by
 induction h with
 | refl => exact hr
 | @step x l m f s y _ e ih =>
  obtain ⟨N, h1, h2⟩ := runs_app.1 ih;obtain ⟨M, h3, h4⟩ := runs_app.1 h1;exact runs_app.2 ⟨N, runs_app.2 ⟨M, h3, runs_swT (runs_sor h3 hS) h4 e⟩, h2⟩
theorem SwR.lns {a b : List Prim} (h : SwR a b) : lns b = lns a ∧ b.length = a.length := by
 induction h with
 | refl => exact ⟨rfl, rfl⟩
 | @step x l m f s y _ e ih =>
  have h1 := swT_lns e;have h2 := swT_len e;simp only [lns_app, List.length_append] at ih ⊢;omega
theorem pswap_swr {p q a b : Patch} (h : (a, b, true) = pswap p q) : SwR (p.l ++ q.l) (a.l ++ b.l) := by
 obtain ⟨f, s, _, h2, rfl, rfl⟩ := pswap_true h;exact .one h2
theorem pswap_eta (p q : Patch) (h : (pswap p q).2.2 = true) : ((pswap p q).1, (pswap p q).2.1, true) = pswap p q := by
 rw [← h]
theorem pl_split {l : List Patch} {k : Nat} (hk : k < l.length) : pl l = pl (l.take k) ++ (l[k].l ++ pl (l.drop (k + 1))) := by
 conv => lhs; rw [← List.take_append_drop k l, List.drop_eq_getElem_cons hk]
 rw [pl_app, pl_cons]
theorem lns_pl {l : List Patch} {k : Nat} (hk : k < l.length) : lns (pl (l.take k)) + lns l[k].l ≤ lns (pl l) ∧ (pl (l.take k)).length + l[k].l.length ≤ (pl l).length := by
 rw [pl_split hk];simp only [lns_app, List.length_append];omega
theorem mem_pl {l : List Patch} {p : Patch} (h : p ∈ l) : lns p.l ≤ lns (pl l) ∧ p.l.length ≤ (pl l).length := by
 obtain ⟨k, hk, rfl⟩ := List.mem_iff_getElem.1 h;have := lns_pl hk;omega
/-! A log: patches, one behind the other, and what they make. -/
def idsP (l : List Patch) : List Int := l.map (·.id)
def atP (l : List Patch) (i : Int) : Int := match l.findIdx? (fun p => decide (p.id = i)) with
 | some k => (k : Int)
 | none => -1
theorem atP_no {l : List Patch} {i : Int} (h : l.any (fun p => decide (p.id = i)) = false) : atP l i = -1 := by
 unfold atP;have : l.findIdx? (fun p => decide (p.id = i)) = none := by
  rw [List.findIdx?_eq_none_iff];intro x hx;exact List.any_eq_false.1 h x hx |> fun h => by simpa using h
 rw [this]
theorem atP_yes {l : List Patch} {i : Int} {k : Nat} (hk : k < l.length) (h1 : (l.take k).any (fun p => decide (p.id = i)) = false) (h2 : decide (l[k].id = i) = true) : atP l i = (k : Int) := by
 unfold atP;have : l.findIdx? (fun p => decide (p.id = i)) = some k := by
  rw [List.findIdx?_eq_some_iff_getElem];refine ⟨hk, h2, fun j hj => ?_⟩;have h3 := List.any_eq_false.1 h1 l[j] (by rw [List.mem_take_iff_getElem]; exact ⟨j, by omega, rfl⟩)
  simpa using h3
 rw [this]
theorem atP_cases (l : List Patch) (i : Int) : (atP l i = -1 ∧ i ∉ idsP l) ∨ ∃ k : Nat, ∃ h : k < l.length, atP l i = (k : Int) ∧ l[k].id = i ∧ ∀ j (hj : j < k), l[j].id ≠ i := by
 unfold atP;cases e : l.findIdx? (fun p => decide (p.id = i)) with
 | none =>
  left
  refine ⟨rfl, fun h => ?_⟩;obtain ⟨p, hp, rfl⟩ := List.mem_map.1 h;have := List.findIdx?_eq_none_iff.1 e p hp;simp at this
 | some k =>
  right
  obtain ⟨hk, h1, h2⟩ := List.findIdx?_eq_some_iff_getElem.1 e;exact ⟨k, hk, rfl, by simpa using h1, fun j hj => by simpa using h2 j hj⟩
def treeP (l : List Patch) : List File := l.foldl (fun t p => (rowT t p.l).1) []
theorem treeP_snoc (l : List Patch) (p : Patch) : treeP (l ++ [p]) = (rowT (treeP l) p.l).1 := by
 unfold treeP; rw [List.foldl_append]; rfl
theorem tree_fold : ∀ {l : List Patch} {T U : List File}, Runs T (pl l) U → l.foldl (fun t p => (rowT t p.l).1) T = U := by
 intro l
 induction l with
 | nil => intro T U h; exact h.symm ▸ rfl
 | cons p l ih =>
  intro T U h;rw [pl_cons] at h;obtain ⟨M, h1, h2⟩ := runs_app.1 h;rw [List.foldl_cons, rowT_ok h1];exact ih h2
theorem tree_runs {l : List Patch} {T : List File} (h : Runs [] (pl l) T) : treeP l = T := tree_fold h
structure LogOk (l : List Patch) (T : List File) : Prop where
 runs : Runs [] (pl l) T
 nodup : (idsP l).Nodup
 fit : ∀ p ∈ l, p.fit
theorem LogOk.tree {l : List Patch} {T : List File} (h : LogOk l T) : treeP l = T := tree_runs h.runs
theorem LogOk.nil : LogOk [] [] := ⟨rfl, List.nodup_nil, (fun p hp => by cases hp)⟩
theorem LogOk.add {l : List Patch} {T U : List File} {p : Patch} (h : LogOk l T) (hp : p.fit) (ha : atP l p.id = -1) (hr : Runs T p.l U) : LogOk (l ++ [p]) U := by
 refine ⟨by rw [pl_app, pl_one]; exact runs_app.2 ⟨T, h.runs, hr⟩, ?_, fun q hq => ?_⟩
 ·have hn : p.id ∉ idsP l := by
   rcases atP_cases l p.id with ⟨_, h1⟩ | ⟨k, hk, h1, _⟩
   ·exact h1
   ·omega
  unfold idsP at *;rw [List.map_append, List.nodup_append];refine ⟨h.nodup, by simp, fun a ha b hb e => ?_⟩;simp only [List.map_cons, List.map_nil, List.mem_singleton] at hb;rw [e, hb] at ha;exact hn ha
 ·rcases List.mem_append.1 hq with hq | hq
  ·exact h.fit q hq
  ·rw [List.mem_singleton.1 hq]; exact hp
def lastF (p : Patch) : List Patch → Option (List Patch × Patch)
 | [] => some ([], p)
 | q :: r => if (pswap p q).2.2 then (lastF (pswap p q).2.1 r).map fun x => ((pswap p q).1 :: x.1, x.2) else none
theorem lastF_snoc : ∀ {r : List Patch} {p : Patch} {s : List Patch} {b : Patch} (q : Patch), lastF p r = some (s, b) → lastF p (r ++ [q]) = if (pswap b q).2.2 then some (s ++ [(pswap b q).1], (pswap b q).2.1) else none := by
 intro r
 induction r with
 | nil =>
  intro p s b q h;simp only [lastF, Option.some.injEq, Prod.mk.injEq] at h;obtain ⟨rfl, rfl⟩ := h;simp only [List.nil_append, lastF]
  split <;> simp
 | cons x r ih =>
  intro p s b q h;simp only [lastF] at h;simp only [List.cons_append, lastF]
  by_cases hc : (pswap p x).2.2 = true
  ·rw [if_pos hc] at h ⊢;cases hl : lastF (pswap p x).2.1 r with
   | none => rw [hl] at h; cases h
   | some y =>
    obtain ⟨s', b'⟩ := y;rw [hl] at h;simp only [Option.map_some, Option.some.injEq, Prod.mk.injEq] at h;obtain ⟨rfl, rfl⟩ := h;rw [ih q hl]
    split <;> simp
  ·rw [if_neg hc] at h; cases h
theorem lastF_none : ∀ {r m : List Patch} {p : Patch}, lastF p r = none → lastF p (r ++ m) = none := by
 intro r
 induction r with
 | nil => intro m p h; cases h
 | cons x r ih =>
  intro m p h;simp only [lastF] at h;simp only [List.cons_append, lastF]
  by_cases hc : (pswap p x).2.2 = true
  ·rw [if_pos hc] at h ⊢;cases hl : lastF (pswap p x).2.1 r with
   | none => rw [ih hl]; rfl
   | some y => rw [hl] at h; cases h
  ·rw [if_neg hc]
theorem pswap_ids {p q : Patch} (h : (pswap p q).2.2 = true) : (pswap p q).1.id = q.id ∧ (pswap p q).2.1.id = p.id := by
 unfold pswap at h ⊢
 split
 ·exact ⟨rfl, rfl⟩
 ·rename_i hc; rw [if_neg hc] at h; cases h
theorem lastF_ids : ∀ {r : List Patch} {p : Patch} {s : List Patch} {b : Patch}, lastF p r = some (s, b) → idsP s = idsP r ∧ b.id = p.id := by
 intro r
 induction r with
 | nil =>
  intro p s b h;simp only [lastF, Option.some.injEq, Prod.mk.injEq] at h;obtain ⟨rfl, rfl⟩ := h;exact ⟨rfl, rfl⟩
 | cons x r ih =>
  intro p s b h;simp only [lastF] at h
  by_cases hc : (pswap p x).2.2 = true
  ·rw [if_pos hc] at h;cases hl : lastF (pswap p x).2.1 r with
   | none => rw [hl] at h; cases h
   | some y =>
    obtain ⟨s', b'⟩ := y;rw [hl] at h;simp only [Option.map_some, Option.some.injEq, Prod.mk.injEq] at h;obtain ⟨rfl, rfl⟩ := h;obtain ⟨h1, h2⟩ := ih hl;obtain ⟨h3, h4⟩ := pswap_ids hc;exact ⟨by unfold idsP at *; rw [List.map_cons, List.map_cons, h1, h3], h2.trans h4⟩
  ·rw [if_neg hc] at h; cases h
theorem lastF_fit : ∀ {r : List Patch} {p : Patch} {s : List Patch} {b : Patch}, lastF p r = some (s, b) → p.fit → (∀ q ∈ r, q.fit) → (∀ q ∈ s, q.fit) ∧ b.fit := by
 intro r
 induction r with
 | nil =>
  intro p s b h hp _;simp only [lastF, Option.some.injEq, Prod.mk.injEq] at h;obtain ⟨rfl, rfl⟩ := h;exact ⟨(fun q hq => by cases hq), hp⟩
 | cons x r ih =>
  intro p s b h hp hr;simp only [lastF] at h
  by_cases hc : (pswap p x).2.2 = true
  ·rw [if_pos hc] at h;cases hl : lastF (pswap p x).2.1 r with
   | none => rw [hl] at h; cases h
   | some y =>
    obtain ⟨s', b'⟩ := y;rw [hl] at h;simp only [Option.map_some, Option.some.injEq, Prod.mk.injEq] at h;obtain ⟨rfl, rfl⟩ := h;have hf := pswap_fit hp (hr x (by simp));obtain ⟨h1, h2⟩ := ih hl hf.2 (fun q hq => hr q (by simp [hq]));refine ⟨fun q hq => ?_, h2⟩;rcases List.mem_cons.1 hq with rfl | hq
    ·exact hf.1
    ·exact h1 q hq
  ·rw [if_neg hc] at h; cases h
/-! What the log's calls compute. -/
def getP (l : List Patch) (v : Int) : Patch × Bool := if h : 0 ≤ atP l v ∧ (atP l v).toNat < l.length then (l[(atP l v).toNat]'h.2, true) else (Patch.zero, false)
theorem getP_yes {l : List Patch} {v : Int} {k : Nat} (hk : k < l.length) (h : atP l v = (k : Int)) : getP l v = (l[k], true) := by
 unfold getP;have e : (atP l v).toNat = k := by omega
 rw [dif_pos ⟨by omega, by omega⟩];simp only [e]
def dropP (l : List Patch) (T : List File) : (List Patch × List File) × (Patch × Bool) := if h : 0 < l.length then ((l.take (l.length - 1), (rowT T (invL (l[l.length - 1]'(by omega)).l)).1), (l[l.length - 1]'(by omega), true)) else ((l, T), (Patch.zero, false))
theorem dropP_yes {l : List Patch} {T U : List File} {e : Int} (h : 0 < l.length) (hq : (U, e) = rowT T (invL (l[l.length - 1]'(by omega)).l)) : dropP l T = ((l.take (l.length - 1), U), (l[l.length - 1]'(by omega), true)) := by
 unfold dropP; rw [dif_pos h, ← hq]
def lastP (l : List Patch) (v : Int) : List Patch × Int := if h : 0 ≤ atP l v ∧ (atP l v).toNat < l.length then
  (match lastF (l[(atP l v).toNat]'h.2) (l.drop ((atP l v).toNat + 1)) with
  | some x => (l.take (atP l v).toNat ++ x.1 ++ [x.2], 0)
  | none => (l, 83)) else (l, 81)
theorem lastP_no {l : List Patch} {v : Int} (h : atP l v < 0) : lastP l v = (l, 81) := by
 unfold lastP; rw [dif_neg (by omega)]
theorem lastP_some {l : List Patch} {v : Int} {k : Nat} {s : List Patch} {b : Patch} (hk : k < l.length) (h : atP l v = (k : Int)) (hl : lastF l[k] (l.drop (k + 1)) = some (s, b)) : lastP l v = (l.take k ++ s ++ [b], 0) := by
 unfold lastP;have e : (atP l v).toNat = k := by omega
 rw [dif_pos ⟨by omega, by omega⟩];simp only [e, hl]
theorem lastP_none {l : List Patch} {v : Int} {k : Nat} (hk : k < l.length) (h : atP l v = (k : Int)) (hl : lastF l[k] (l.drop (k + 1)) = none) : lastP l v = (l, 83) := by
 unfold lastP;have e : (atP l v).toNat = k := by omega
 rw [dif_pos ⟨by omega, by omega⟩];simp only [e, hl]
theorem any_of {α : Type} {l : List α} {f : α → Bool} {r : Int} (h : (r = -1 ∧ l.any f = false) ∨ ∃ k : Nat, r = (k : Int) ∧ ∃ h : k < l.length, (l.take k).any f = false ∧ f l[k] = true) : decide ((0 : Int) ≤ r) = l.any f := by
 rcases h with ⟨rfl, h⟩ | ⟨k, rfl, hk, h1, h2⟩
 ·rw [h]; rfl
 ·rw [List.any_eq_true.2 ⟨l[k], List.getElem_mem hk, h2⟩]; exact decide_eq_true (by omega)
def addP (l : List Patch) (T : List File) (q : Patch) : (List Patch × List File) × Int :=
 if q.right = false then ((l, T), 70) else if 0 ≤ atP l q.id then ((l, T), 80) else if (q.deps.any fun d => decide (atP l d < 0)) = true then ((l, T), 82) else
 if (rowT T q.l).2 = 0 then ((l ++ [q], (rowT T q.l).1), 0) else ((l, (rowT T q.l).1), (rowT T q.l).2)
theorem addP_form {l : List Patch} {T : List File} {q : Patch} (h : q.right = false) : addP l T q = ((l, T), 70) := by unfold addP; rw [if_pos h]
theorem addP_twice {l : List Patch} {T : List File} {q : Patch} (h : q.right = true) (ha : 0 ≤ atP l q.id) : addP l T q = ((l, T), 80) := by unfold addP; rw [if_neg (by rw [h]; simp), if_pos ha]
theorem addP_deps {l : List Patch} {T : List File} {q : Patch} (h : q.right = true) (ha : ¬ 0 ≤ atP l q.id) (hd : (q.deps.any fun d => decide (atP l d < 0)) = true) : addP l T q = ((l, T), 82) := by unfold addP; rw [if_neg (by rw [h]; simp), if_neg ha, if_pos hd]
theorem addP_no {l : List Patch} {T U : List File} {q : Patch} {e : Int} (h : q.right = true) (ha : ¬ 0 ≤ atP l q.id) (hd : (q.deps.any fun d => decide (atP l d < 0)) = false) (hq : (U, e) = rowT T q.l) (he : ¬ e = 0) : addP l T q = ((l, U), e) := by
 unfold addP; rw [if_neg (by rw [h]; simp), if_neg ha, if_neg (by rw [hd]; simp), ← hq, if_neg he]
theorem addP_yes {l : List Patch} {T U : List File} {q : Patch} (h : q.right = true) (ha : ¬ 0 ≤ atP l q.id) (hd : (q.deps.any fun d => decide (atP l d < 0)) = false) (hq : (U, 0) = rowT T q.l) : addP l T q = ((l ++ [q], U), 0) := by
 unfold addP; rw [if_neg (by rw [h]; simp), if_neg ha, if_neg (by rw [hd]; simp), ← hq, if_pos rfl]
theorem lastF_len : ∀ {r : List Patch} {p : Patch} {s : List Patch} {b : Patch}, lastF p r = some (s, b) → s.length = r.length := by
 intro r p s b h;have := congrArg List.length (lastF_ids h).1
 simpa [idsP] using this
theorem lastF_stuck {D : List Patch} {q0 b : Patch} {k : Nat} {s : List Patch} {r1 r2 : Patch} (hk : k < D.length) (h : lastF q0 (D.take k) = some (s, b)) (hr : (r1, r2, false) = pswap b D[k]) : lastF q0 D = none := by
 have h1 := lastF_snoc D[k] h;rw [if_neg (by rw [← hr]; simp), ← List.take_succ_eq_append_getElem hk] at h1;have h2 := lastF_none (m := D.drop (k + 1)) h1
 rwa [List.take_append_drop] at h2
theorem lastF_step {D : List Patch} {q0 b : Patch} {k : Nat} {s : List Patch} {r1 r2 : Patch} (hk : k < D.length) (h : lastF q0 (D.take k) = some (s, b)) (hr : (r1, r2, true) = pswap b D[k]) : lastF q0 (D.take (k + 1)) = some (s ++ [r1], r2) := by
 rw [List.take_succ_eq_append_getElem hk, lastF_snoc D[k] h, ← hr, if_pos rfl]
end Go.Proofs.YtbhnolfcdcpbkaaGreatDoor.X
end
section
namespace Go.Sx
open Go Go.RowKit Go.Lib
/-! append(nil, make([]T, k)...) -/
theorem loc_appZ {P : Program} {α : Type} [Rp α] (z0 : α) (y0 : Rp.Lay α) {t tn e ty' : TypeId} {zv : Value} {bytes : Nat} {k1 kn : IntKind} (k : Nat) (ht : P.underlying t = some (.slice e)) (htn : P.underlying tn = some (.int kn)) (hinfo : (P.info? e).map (fun i => (i.zero, i.size, i.bytes)) = some (some zv, Rp.size α, bytes))
  (hz : zv.cells = (Rp.enc z0 y0).toArray) (hs0 : 0 < Rp.size α) (hb0 : 0 < bytes) (ha : ∀ M w, ∀ p ∈ Rp.asn z0 y0, p.p M w) (h0 : 0 < k) (hl : k * bytes ≤ 140737488355328) :
  Loc P (fun w => (Builtin.append_ #[t, tn] ty' #[.slice none 0 0, .int k1 (k : Int)]).run P w) [] [] (Nat × {c : Nat // k ≤ c}) (fun y => .slice (some ⟨y.1, 0, none⟩) k y.2.1) (fun y => [row e (some ⟨y.1, 0, none⟩) y.2.1 (List.replicate k z0)]) (fun _ => []) := by
 obtain ⟨i0, hi, hz0, hz1, hz2⟩ := info_parts hinfo;intro M0 Fs w hh;have hk1 : k * 1 ≤ k * bytes := Nat.mul_le_mul_left _ hb0;have hr := run_append_nil_zeros (P := P) w t tn ty' e i0 zv k1 kn ht htn hi hz0 k h0 (by rw [hz1]; exact hs0) (by omega) (by rw [hz2]; omega);have hnil : Fs = [] := by
  cases Fs with
  | nil => rfl
  | cons _ _ => exact hh.ex.elim
 subst hnil;have hd : Hp M0 (own []) w [] [] [] w.drew := ⟨trivial, .nil, fun b hb => absurd hb (own_nil b), fun b hb => absurd hb (own_nil b), fun b hb => absurd hb (own_nil b), (fun p hp => by cases hp), ⟨rfl, rfl, rfl, Nat.le_refl _, fun _ _ _ => rfl⟩, hh.m0, hh.f0⟩;have hc : k ≤ grownCap w k 0 e := grownCap_ge w k 0 e;have hm : grownCap w k 0 e ≤ maxLen := grownCap_le_maxLen w k 0 e (by simp only [maxLen]; omega);have hlen := Rp.len z0 y0;have hsz : zv.cells.size = Rp.size α := by rw [hz]; simp [hlen]
 have hmade : (Builtin.zeroCells zv.cells k).toList = (List.replicate k (Rp.enc z0 y0)).flatten := by
  have := made_flat (Rp.enc z0 y0) (by rw [hlen]; exact hs0) k;rw [← this, hlen];show ((Array.range (k * zv.cells.size)).map fun i => zv.cells[i % zv.cells.size]!).toList = _;rw [hsz, hz];unfold madeCells;rw [show (Rp.enc z0 y0).toArray.size = Rp.size α by simp [hlen]]
 refine ⟨(w.heap.size, ⟨grownCap w k 0 e, hc⟩), _, _, hr, hd.alloc' _ _ ?_⟩;have hrow := RowE.rep (M := fun b => M0 b ∨ own [] b) (w := w.drew) z0 y0 (fun p hp => ha _ _ p hp) k;refine ⟨(List.replicate k (Rp.enc z0 y0)).flatten, ⟨hrow.length, .inr ⟨w.heap.size, grownCap w k 0 e, Builtin.zeroCells zv.cells k ++ Builtin.zeroCells zv.cells (grownCap w k 0 e - k), by rw [List.length_replicate], Nat.zero_le _, ?_, ?_, ?_, ?_, ?_⟩⟩, fun x => by simp [Value.ownBlock, eq_comm], ?_⟩
 ·show (w.heap.push _)[w.heap.size]? = _;simp
 ·rw [List.length_replicate]; omega
 ·exact hm
 ·rw [Array.size_append, size_zeroCells, size_zeroCells, hsz, ← Nat.add_mul]; congr 1; omega
 ·rw [List.length_replicate, Array.toList_append, ← hmade];exact List.take_left' (by rw [Array.length_toList, size_zeroCells, hsz])
 ·exact hrow.st (fun b hb _ => Below.heap_alloc w.drew _ b hb) (fun b hb hm => by
   rcases hm with hm | hm
   ·exact .inl hm
   ·rcases own_cons.1 hm with e' | e'
    ·exact absurd e' (Nat.ne_of_lt hb)
    ·exact .inr e') (by simp)
section
variable {ro : Option Nat} {P : Program} {M0 F0 : Nat → Prop} {w0 : World} {n : Nm} {σ : List (Nat × Value)} {Ξ : List Xsn} {Γ : List Asn} {d : Nat} {ty : TypeId} {pos : String} {af : Array Edge}
theorem p_cap {T : World → Prop} {x : Operand} {t e : TypeId} {A : Option Addr} {l c : Nat} (hx : ev σ x = some (.slice A l c)) (ht : P.underlying t = some (.slice e)) : Pu P n σ T ⟨some d, .call ⟨.builtin .cap, #[x], #[t]⟩, ty, pos, af, none⟩ (.int .i64 (c : Int)) :=
 fun a hs w _ => by simp [execOp, resolve, invoke, builtin, hs.ev hx, Builtin.cap_, run_underlying ht, goInt]
theorem o_appZ {α : Type} [Rp α] (z0 : α) (y0 : Rp.Lay α) (k : Nat) {x y : Operand} {t tn e : TypeId} {zv : Value} {bytes : Nat} {k1 kn : IntKind} {m1 : Int} (ht : P.underlying t = some (.slice e)) (htn : P.underlying tn = some (.int kn)) (hinfo : (P.info? e).map (fun i => (i.zero, i.size, i.bytes)) = some (some zv, Rp.size α, bytes))
  (hz : zv.cells = (Rp.enc z0 y0).toArray) (hs0 : 0 < Rp.size α) (hb0 : 0 < bytes) (ha : ∀ M w, ∀ p ∈ Rp.asn z0 y0, p.p M w) (h0 : 0 < k) (hl : k * bytes ≤ 140737488355328) (hm1 : m1 = (k : Int)) (hx : ev σ x = some (.slice none 0 0)) (hy : ev σ y = some (.int k1 m1)) (hd : Nat.blt d n.n = true) :
  OpR P ⟨some d, .call ⟨.builtin .append, #[x, y], #[t, tn]⟩, ty, pos, af, none⟩ (St M0 F0 w0 n σ Ξ Γ) (fun a w => ∃ q : Nat × {c : Nat // k ≤ c}, St M0 F0 w0 n ((d, .slice (some ⟨q.1, 0, none⟩) k q.2.1) :: σ) (row e (some ⟨q.1, 0, none⟩) q.2.1 (List.replicate k z0) :: Ξ) Γ a w) := by
 subst hm1;refine (o_loc (Γi := []) (is := []) (loc_appZ (P := P) (ty' := ty) (k1 := k1) z0 y0 k ht htn hinfo hz hs0 hb0 ha h0 hl) ?_ rfl .d hd).mono fun a w h => h;intro a hsl w v w' hr;have h1 := hsl.ev hx;have h2 := hsl.ev hy;have hm : (#[x, y] : Array Operand).map a.eval = #[.slice none 0 0, .int k1 (k : Int)] := by simp [h1, h2]
 simp only [execOp, resolve, invoke, builtin, hm];simp [hr]
end
end Go.Sx
namespace Go.Sx
open Go Go.RowKit
section
variable {ro : Option Nat} {P : Program} {ops : Array Oper} {l : List Oper} {Q : Exit → Act → World → Prop} {S : Act → World → Prop} {ef : List Nat} {TL : List (Nat × Nat × Nat × List Value)} {fuel : Nat} {L : List Nat}
theorem apure {φ : Prop} (hs : ∀ a w, S a w → φ) (k : φ → TrA ro P ops Q ef TL S fuel L) : TrA ro P ops Q ef TL S fuel L := fun hcl a w h hT => k (hs a w h) hcl a w h hT
theorem apureB {φ : Prop} (hs : ∀ a w, S a w → φ) (k : φ → TrB ro P l Q ef TL S fuel L) : TrB ro P l Q ef TL S fuel L := ⟨fun h he => apure hs fun hφ => (k hφ).h h he⟩
end
end Go.Sx
namespace Go.Sx
open Go Go.RowKit
section
variable {M0 F0 : Nat → Prop} {w0 : World} {n : Nm} {σ : List (Nat × Value)} {Ξ : List Xsn} {Γ : List Asn}
theorem sub_nil {A : Option Addr} {c lo : Nat} {f : Addr → Addr} (hA : A = none → c = 0) (e : (if c = lo then A else A.map f) = none) : c - lo = 0 := by
 split at e
 ·omega
 ·have : A = none := by cases A with | none => rfl | some x => cases e
  have := hA this;omega
end
end Go.Sx
end
section
namespace Go.Proofs.YtbhnolfcdcpbkaaGreatDoor.X
set_option maxRecDepth 100000
open Go Go.RowKit Go.Proofs Go.Sx
open Tryz
attribute [local irreducible] slA isA box row TrL TrC TrN TrA Pu OpR
set_option maxHeartbeats 8000000
theorem atP_of {l : List Patch} {v : Int} {r : Int} (h : (r = -1 ∧ (l.any fun q => decide (q.id = v)) = false) ∨ ∃ k : Nat, r = (k : Int) ∧ ∃ h : k < l.length, ((l.take k).any fun q => decide (q.id = v)) = false ∧ decide (l[k].id = v) = true) : r = atP l v := by
 rcases h with ⟨rfl, h⟩ | ⟨k, rfl, hk, h1, h2⟩
 ·exact (atP_no h).symm
 ·exact (atP_yes hk h1 h2).symm
theorem ids_take {l : List Patch} {k : Nat} (h : k < l.length) : idsP (l.take (k + 1)) = idsP (l.take k) ++ [l[k].id] := by
 unfold idsP; rw [List.take_succ_eq_append_getElem h, List.map_append]; rfl
theorem c_logAt1 (q : Patch) (y : Rp.Lay Patch) (b u : Nat) (v : Int) : Con Tryz.prog 120 [sv q y, pT b] [box b 3 [.int .i64 v]] [] Unit (fun _ => .bool (decide (q.id = v))) (fun _ => [box b 3 [.int .i64 v]]) (fun _ => []) := by
 refine con func120 rfl ntmps120 rfl ?_;intro M0 F0 w0;refine k_ 2 ?_;refine ls (o_box rfl rfl rfl) ?_;refine le ?_; intro b2;refine k_ 14 ?_;exact rR [1] ()
theorem c_IndexFuncO (l : List Patch) (A : Option Addr) (c : Nat) (hl : l.length ≤ 2000000) (f : Patch → Bool) (g : FuncId) (cap : List Value) (x : Xsn) (hcf : ∀ args w, (callFunc g args).run Tryz.prog w = .ok (.enter g args) w) (hg : ∀ q y, Con Tryz.prog g (sv q y :: cap) [x] [] Unit (fun _ => .bool (f q)) (fun _ => [x]) (fun _ => [])) : Con Tryz.prog 119 [.slice A l.length c, .func (.func g) #[] cap.toArray] [x] [slA A l] {r : Int // (r = -1 ∧ l.any f = false) ∨ ∃ k : Nat, r = (k : Int) ∧ ∃ h : k < l.length, (l.take k).any f = false ∧ f l[k] = true} (fun r => .int .i64 r.1) (fun _ => [x]) (fun _ => []) := by
 refine con func119 rfl ntmps119 rfl ?_;intro M0 F0 w0;refine k_ 14 ?_;refine cl (ι := {k : Nat // k ≤ l.length ∧ (l.take k).any f = false}) (fun i => St M0 F0 w0 19 [(0, .slice A l.length c), (1, .func (.func g) #[] cap.toArray), (7, .int .i64 (l.length : Int)), (8, .int .i64 (i.1 : Int))] [x] [slA A l]) (fun i => l.length - i.1) ⟨0, by simp⟩ (wk0 Φ Ω) ?_;rintro ⟨k, hk, hkk⟩;refine cmono (S' := St M0 F0 w0 19 [(0, .slice A l.length c), (1, .func (.func g) #[] cap.toArray), (7, .int .i64 (l.length : Int)), (8, .int .i64 (k : Int))] [x] [slA A l]) Ħ ?_;refine k_ 6 ?_;refine cc rfl ?_ ?_
 ·intro h9;(try simp only [nrmZ] at h9);have hk1 : k < l.length := (by omega);refine k_ 11 ?_;refine elC Θ k (List.getElem?_eq_getElem (l := l) hk1) ?_; rintro zbp zop zyp hAp;refine k_ 4 ?_;refine ls (op (p_ia k hAp hk1 rfl underlying38 sizeOf63 rfl rfl) rfl) ?_;refine ls (o_ldj isAgg63 sizeOf63 rfl Θ 0 rfl Δ rfl) ?_;refine ls (o_callv (is := [0]) rfl hcf (hg l[k] zyp) rfl rfl rfl Ω rfl) ?_;refine le ?_; intro x16;refine k_ 2 ?_;refine cc rfl ?_ ?_
  ·intro h16;(try simp only [nrmZ] at h16);refine k_ 8 ?_;exact rR [0] ⟨(k : Int), .inr ⟨k, rfl, hk1, hkk, h16⟩⟩
  ·intro h16;(try simp only [nrmZ] at h16);refine k_ 7 ?_;refine nnext ⟨k + 1, hk1, by rw [List.take_succ_eq_append_getElem hk1, List.any_append, hkk]; simp [h16]⟩ (by dsimp only; omega) (wK [0])
 ·intro h9;(try simp only [nrmZ] at h9);refine k_ 12 ?_;exact rR [0] ⟨-1, .inl ⟨rfl, by rw [List.take_of_length_le (by omega)] at hkk; exact hkk⟩⟩
theorem c_IndexFuncW (l : List Patch) (A : Option Addr) (c : Nat) (hl : l.length ≤ 2000000) (f : Patch → Bool) (g : FuncId) (cap : List Value) (x : Xsn) (hcf : ∀ args w, (callFunc g args).run Tryz.prog w = .ok (.enter g args) w) (hg : ∀ q y, Con Tryz.prog g (sv q y :: cap) [x] [] Unit (fun _ => .bool (f q)) (fun _ => [x]) (fun _ => [])) : Con Tryz.prog 119 [.slice A l.length c, .func (.func g) #[] cap.toArray] [row 63 A c l, x] [] {r : Int // (r = -1 ∧ l.any f = false) ∨ ∃ k : Nat, r = (k : Int) ∧ ∃ h : k < l.length, (l.take k).any f = false ∧ f l[k] = true} (fun r => .int .i64 r.1) (fun _ => [row 63 A c l, x]) (fun _ => []) := by
 refine con func119 rfl ntmps119 rfl ?_;intro M0 F0 w0;refine k_ 14 ?_;refine cl (ι := {k : Nat // k ≤ l.length ∧ (l.take k).any f = false}) (fun i => St M0 F0 w0 19 [(0, .slice A l.length c), (1, .func (.func g) #[] cap.toArray), (7, .int .i64 (l.length : Int)), (8, .int .i64 (i.1 : Int))] [row 63 A c l, x] []) (fun i => l.length - i.1) ⟨0, by simp⟩ (wk0 Φ Ω) ?_;rintro ⟨k, hk, hkk⟩;refine cmono (S' := St M0 F0 w0 19 [(0, .slice A l.length c), (1, .func (.func g) #[] cap.toArray), (7, .int .i64 (l.length : Int)), (8, .int .i64 (k : Int))] [row 63 A c l, x] []) Ħ ?_;refine k_ 6 ?_;refine cc rfl ?_ ?_
 ·intro h9;(try simp only [nrmZ] at h9);have hk1 : k < l.length := (by omega);refine k_ 11 ?_;refine rowC (α := Patch) (A := A) (l := l) Θ (List.ne_nil_of_length_pos (by omega)) ?_;rintro g0 rfl;refine k_ 4 ?_;refine ls (op (p_ia k rfl hk1 rfl underlying38 sizeOf63 rfl rfl) rfl) ?_;refine ls (o_ldrow isAgg63 sizeOf63 rfl Θ (List.getElem?_eq_getElem hk1) rfl) ?_;refine le ?_; intro zyp;refine ls (o_callv (is := [1]) rfl hcf (hg l[k] zyp) rfl rfl rfl Ω rfl) ?_;refine le ?_; intro x16;refine k_ 2 ?_;refine cc rfl ?_ ?_
  ·intro h16;(try simp only [nrmZ] at h16);refine k_ 8 ?_;exact rR [1, 0] ⟨(k : Int), .inr ⟨k, rfl, hk1, hkk, h16⟩⟩
  ·intro h16;(try simp only [nrmZ] at h16);refine k_ 7 ?_;refine nnext ⟨k + 1, hk1, by rw [List.take_succ_eq_append_getElem hk1, List.any_append, hkk]; simp [h16]⟩ (by dsimp only; omega) (wK [1, 0])
 ·intro h9;(try simp only [nrmZ] at h9);refine k_ 12 ?_;exact rR [0, 0] ⟨-1, .inl ⟨rfl, by rw [List.take_of_length_le (by omega)] at hkk; exact hkk⟩⟩
theorem c_logAtO (l : List Patch) (A : Option Addr) (c : Nat) (hl : l.length ≤ 2000000) (pl p : Nat) (v : Int) : Con Tryz.prog 68 [pT pl, .int .i64 v] [box pl 124 [.slice A l.length c, pT p]] [slA A l] Unit (fun _ => .int .i64 (atP l v)) (fun _ => [box pl 124 [.slice A l.length c, pT p]]) (fun _ => []) := by
 refine con func68 rfl ntmps68 rfl ?_;intro M0 F0 w0;refine k_ 2 ?_;refine ls (o_box rfl rfl rfl) ?_;refine le ?_; intro b3;refine k_ 6 ?_;refine ls (op (p_nilck rfl) rfl) ?_;refine k_ 2 ?_;refine ls (op (p_mkf rfl) rfl) ?_;refine lC [0] call119 (c_IndexFuncO l A c hl (fun q => decide (q.id = v)) 120 [pT b3] (box b3 3 [.int .i64 v]) call120 (fun q y => c_logAt1 q y b3 0 v)) ?_; rintro ⟨r, hr⟩;refine fixL (v' := .int .i64 (atP l v)) (congrArg (Value.int .i64) (atP_of hr)) ?_;refine k_ 5 ?_;exact rR [1] ()
theorem c_logAtW (l : List Patch) (A : Option Addr) (c : Nat) (hl : l.length ≤ 2000000) (pl p : Nat) (v : Int) : Con Tryz.prog 68 [pT pl, .int .i64 v] [box pl 124 [.slice A l.length c, pT p], row 63 A c l] [] Unit (fun _ => .int .i64 (atP l v)) (fun _ => [box pl 124 [.slice A l.length c, pT p], row 63 A c l]) (fun _ => []) := by
 refine con func68 rfl ntmps68 rfl ?_;intro M0 F0 w0;refine k_ 2 ?_;refine ls (o_box rfl rfl rfl) ?_;refine le ?_; intro b3;refine k_ 6 ?_;refine ls (op (p_nilck rfl) rfl) ?_;refine k_ 2 ?_;refine ls (op (p_mkf rfl) rfl) ?_;refine lC [2, 0] call119 (c_IndexFuncW l A c hl (fun q => decide (q.id = v)) 120 [pT b3] (box b3 3 [.int .i64 v]) call120 (fun q y => c_logAt1 q y b3 0 v)) ?_; rintro ⟨r, hr⟩;refine fixL (v' := .int .i64 (atP l v)) (congrArg (Value.int .i64) (atP_of hr)) ?_;refine k_ 5 ?_;exact rR [2, 0] ()
theorem c_logNew : Con Tryz.prog 78 [] [] [] (Nat × Nat × Nat) (fun y => pT y.1) (fun y => [box y.1 124 [.slice none 0 0, pT y.2.1], box y.2.1 139 [.map (some y.2.2)], tr y.2.2 ([] : List File)]) (fun _ => []) := by
 refine con func78 rfl ntmps78 rfl ?_;intro M0 F0 w0;refine k_ 7 ?_;refine lC [] call79 (c_tNew) ?_; rintro ⟨p, b⟩;refine k_ 1 ?_;refine ls (o_box rfl rfl rfl) ?_;refine le ?_; intro b3;refine k_ 5 ?_;exact rR [0, 0, 0] (b3, p, b)
theorem c_logIdsW (l : List Patch) (A : Option Addr) (c : Nat) (hl : l.length ≤ 2000000) (pl p : Nat) : Con Tryz.prog 54 [pT pl] [box pl 124 [.slice A l.length c, pT p], row 63 A c l] [] (Option Addr × Nat) (fun y => .slice y.1 (idsP l).length y.2) (fun y => [row 3 y.1 y.2 (idsP l), box pl 124 [.slice A l.length c, pT p], row 63 A c l]) (fun _ => []) := by
 refine con func54 rfl ntmps54 rfl ?_;intro M0 F0 w0;refine k_ 6 ?_;refine cmono (fun a w h => nilRow (α := Int) 3 h) ?_;refine k_ 8 ?_;refine ls (op (p_nilck rfl) rfl) ?_;refine k_ 7 ?_;refine cl (ι := {q : Nat × (Option Addr × Nat) // q.1 ≤ l.length}) (fun i => St M0 F0 w0 22 [(3, .slice i.1.2.1 (idsP (l.take i.1.1)).length i.1.2.2), (9, .slice A l.length c), (10, .int .i64 (l.length : Int)), (11, .int .i64 ((i.1.1 : Nat) : Int))] [row 3 (i.1.2.1) (i.1.2.2) (idsP (l.take i.1.1)), box pl 124 [.slice A l.length c, pT p], row 63 A c l] []) (fun i => l.length - i.1.1) ⟨(0, (none, 0)), Nat.zero_le _⟩ (wk0 Φ Ω) ?_;rintro ⟨⟨k, ⟨A3, c3⟩⟩, hk⟩;refine cmono (S' := St M0 F0 w0 22 [(3, .slice A3 (idsP (l.take k)).length c3), (9, .slice A l.length c), (10, .int .i64 (l.length : Int)), (11, .int .i64 ((k : Nat) : Int))] [row 3 (A3) (c3) (idsP (l.take k)), box pl 124 [.slice A l.length c, pT p], row 63 A c l] []) Ħ ?_;refine k_ 6 ?_;refine cc rfl ?_ ?_
 ·intro h12;dsimp only at hk;(try simp only [nrmZ] at h12);have hk1 : k < l.length := (by omega);refine k_ 5 ?_;refine rowC (α := Patch) (A := A) (l := l) Θ (List.ne_nil_of_length_pos (by omega)) ?_;rintro g0 rfl;refine cr ?_;refine ls (op (p_ia k rfl hk1 rfl underlying38 sizeOf63 rfl rfl) rfl) ?_;refine ls (o_ldrow isAgg63 sizeOf63 rfl Θ (List.getElem?_eq_getElem hk1) rfl) ?_;refine le ?_; intro zyp;refine ls (o_alloc zeroValue63 rfl rfl) ?_;refine le ?_; intro b5;refine k_ 7 ?_;refine ls (o_bsl [l[k].id] underlying61 sizeOf3 zeroValue3 rfl (Enum.t Enum.d) (RV.t () rfl Ω RV.d) rfl (by decide) (by decide) rfl) ?_;refine le ?_; intro b18;refine lmono (fun a w h => Go.Sx.freeze (i := 0) rfl h) ?_;refine ls (o_appX (i := 1) underlying61 inf3 rfl (by decide) (by decide) rfl rfl (by simp only [idsP, List.length_map, List.length_take, List.length_cons, List.length_nil]; omega) rfl Ω rfl) ?_;refine le ?_; rintro ⟨A19, c19⟩;refine k_ 8 ?_;refine nnext ⟨(k + 1, (A19, c19)), hk1⟩ (by dsimp only; omega) (fun a w h => by dsimp only; rw [ids_take hk1]; exact wL [0, 1, 1] h)
 ·intro h12;dsimp only at hk;(try simp only [nrmZ] at h12);obtain rfl : k = l.length := (by omega);rw [List.take_length];refine k_ 13 ?_;exact rR [0, 0, 0] (A3, c3)
end Go.Proofs.YtbhnolfcdcpbkaaGreatDoor.X
end
section
namespace Go.Sx
open Go Go.RowKit
/-! A scope, out of which nobody jumps. -/
theorem stepR_scope {P : Program} {b : Frame} {a : Act} {k : List Item} {cs : List Frame} {w : World} {c : Code} : step P (lone (b.atR a (.code (.scope c) :: k)) cs w) = .next (lone (b.atR a (.code c :: .inScope c :: k)) cs w) :=
 step_lone_go (by simp [stepG, stepG.exec, Frame.atR])
theorem stepR_inScope {P : Program} {b : Frame} {a : Act} {k : List Item} {cs : List Frame} {w : World} {c : Code} : step P (lone (b.atR a (.inScope c :: k)) cs w) = .next (lone (b.atR a k) cs w) :=
 step_lone_go (by simp [stepG, stepG.exec, Frame.atR])
theorem wpIn_scope {F : Fence} {n : Nat} {P : Program} {Q : Exit → Act → World → Prop} {a : Act} {w : World} {c : Code} (h : c.wpIn F n P (Exit.noGoto Q) a w) : (Code.scope c).wpIn F n P Q a w := by
 intro b k cs hro hb hr;have h0 : (lone (b.atR a (.code (.scope c) :: k)) cs w).fenced P F := fenced_calm hb hr rfl;obtain ⟨e, a₁, w₁, hq, harr⟩ := h b (.inScope c :: k) cs hro hb hr;cases e with
 | normal => exact ⟨.normal, a₁, w₁, hq, .head h0 stepR_scope (StepsIn.trans harr (.one (fenced_calm hb hr rfl) stepR_inScope))⟩
 | exit id => exact ⟨.exit id, a₁, w₁, hq, .of_steps (.one h0 stepR_scope) ⟨fun k' hk => harr.1 k' (by simpa [exitTo] using hk), fun hr' hk => harr.2 hr' (by simpa [exitTo] using hk)⟩⟩
 | goto l => exact hq.elim
 | ret => exact ⟨_, a₁, w₁, hq, .of_steps (.one h0 stepR_scope) harr⟩
 | panic ch => exact ⟨_, a₁, w₁, hq, .of_steps (.one h0 stepR_scope) harr⟩
 | outgrown => exact ⟨_, a₁, w₁, hq, .of_steps (.one h0 stepR_scope) harr⟩
theorem cscope {ro : Option Nat} {P : Program} {Q : Exit → Act → World → Prop} {S : Act → World → Prop} {c : Code} (k : TrC ro P (Exit.noGoto Q) S c) : TrC ro P Q S (.scope c) := fun a w h => wpIn_scope (k a w h)
/-! A table: a row of one's own of slices whose arrays are one's own, too. -/
structure Hdr where
 A : Option Addr
 n : Nat
 c : Nat
instance instRpHdr : Rp Hdr where
 Lay := Unit
 size := 1
 enc h _ := [.slice h.A h.n h.c]
 len _ _ := rfl
 one _ _ v hv := by
  simp only [List.mem_cons, List.mem_nil_iff, or_false] at hv;subst hv; rfl
 asn _ _ := []
theorem row_set {α : Type} [Rp α] {P : Program} {e : TypeId} {g c : Nat} {l : List α} {F M : Nat → Prop} {w : World} (h : (row e (some ⟨g, 0, none⟩) c l).p F M w) (hM : M g) {j : Nat} (hj : j < l.length) (z : α) (yz : Rp.Lay α) (ha : ∀ p ∈ Rp.asn z yz, p.p M w) :
  ∃ w' : World, (storeCells ⟨g, 0 + j * Rp.size α, none⟩ (Rp.enc z yz)).run P w = .ok () w' ∧ Upd (fun b => b = g) w w' ∧ (row e (some ⟨g, 0, none⟩) c (l.set j z)).p F M w' := by
 obtain ⟨xs, ho, hFb, hr⟩ := h;have hxl := hr.length;rcases ho.2 with ⟨h0, _⟩ | ⟨g', cap, cur, hv, hbase, hb, hle, hmax, hcs, hxs⟩
 ·cases h0
 ·cases hv;have hjs : j * Rp.size α + Rp.size α ≤ l.length * Rp.size α := by
   have : (j + 1) * Rp.size α ≤ l.length * Rp.size α := Nat.mul_le_mul_right _ hj;rw [Nat.add_mul, Nat.one_mul] at this;exact this
  have hcap : l.length * Rp.size α ≤ c * Rp.size α := Nat.mul_le_mul_right _ hle;have hlen := Rp.len z yz;have hst := run_storeCells_at P g (0 + j * Rp.size α) e (Rp.enc z yz) 0 cur w hb (by rw [hlen]; omega) (fun v hv => Rp.one z yz v hv);simp only [Nat.zero_add, Nat.add_zero, hlen] at hst;refine ⟨w.setRow g (cur.toList.take (j * Rp.size α) ++ Rp.enc z yz ++ cur.toList.drop (j * Rp.size α + Rp.size α)).toArray, ?_, ⟨rfl, rfl, rfl, by simp, fun b _ hn => setRow_other w g b _ (fun e' => hn e')⟩, ?_⟩
  ·rw [Nat.zero_add]; exact hst
  ·have hrow := hr.set j hj z yz ha;refine ⟨_, ⟨?_, .inr ⟨g, c, (cur.toList.take (j * Rp.size α) ++ Rp.enc z yz ++ cur.toList.drop (j * Rp.size α + Rp.size α)).toArray, by rw [List.length_set], hbase, setRow_heap w g _ _ e _ hb, by rw [List.length_set]; exact hle, hmax, ?_, ?_⟩⟩, fun b => by rw [List.length_set]; exact hFb b, hrow.st (fun b hb' hn => setRow_other w g b _ (fun e' => hn (by rw [e']; exact hM))) (fun b _ hb' => hb') (by simp)⟩
   ·exact hrow.length
   ·simp [hlen]; omega
   ·rw [List.length_set];have hcl : cur.toList.length = cur.size := by simp
    have h1 := take_put (l := cur.toList) (vs := Rp.enc z yz) (a := j * Rp.size α) (N := l.length * Rp.size α) (by rw [hlen]; exact hjs) (by rw [hcl, hcs]; exact hcap);rw [hlen, hxs] at h1;exact h1
theorem row_at {α : Type} [Rp α] {e : TypeId} {g c : Nat} {l : List α} {F M : Nat → Prop} {w : World} (h : (row e (some ⟨g, 0, none⟩) c l).p F M w) {j : Nat} {x : α} (hj : l[j]? = some x) :
  ∃ y : Rp.Lay α, Is g (0 + j * Rp.size α) (Rp.enc x y) w ∧ ∀ p ∈ Rp.asn x y, p.p M w := by
 obtain ⟨xs, ho, _, hr⟩ := h;obtain ⟨y, h1, h2⟩ := hr.at j x hj;refine ⟨y, fun q v hq => ?_, h2⟩;rcases ho.2 with ⟨h0, _⟩ | ⟨g', cap, cur, hv, _, hb, _, _, hsz, hxs⟩
 ·cases h0
 ·cases hv;have h3 := h1 q v hq;rw [← hxs] at h3;have hlt := (List.getElem?_eq_some_iff.1 h3).1;rw [List.length_take] at hlt;rw [List.getElem?_take_of_lt (by omega)] at h3;simp only [World.cell?, hb, Option.isSome_none, Bool.false_eq_true, if_false];rw [Nat.zero_add, ← Array.getElem?_toList];exact h3
theorem row_own {α : Type} [Rp α] {e : TypeId} {g c : Nat} {l : List α} {F M : Nat → Prop} {w : World} (h : (row e (some ⟨g, 0, none⟩) c l).p F M w) : (∀ b, F b ↔ b = g) ∧ g < w.heap.size := by
 obtain ⟨xs, ho, hF, hr⟩ := h;refine ⟨fun b => by rw [hF b]; exact ⟨fun h => (Option.some.inj h).symm, fun h => by rw [h]; rfl⟩, ?_⟩;rcases ho.2 with ⟨h0, _⟩ | ⟨g', cap, cur, hv, _, hb, _, _, hsz, hxs⟩
 ·cases h0
 ·cases hv; exact (Array.getElem?_eq_some_iff.1 hb).1
def tab {β : Type} [Rp β] (e1 e2 : TypeId) (g c : Nat) (hs : List Hdr) (m : Nat) (gs : List Nat) (ls : List (List β)) : Xsn where
 p F M w := (row (α := Hdr) e1 (some ⟨g, 0, none⟩) c hs).p (fun b => b = g) M w ∧ (g :: gs).Nodup ∧ gs.length = ls.length ∧
  (∀ (j b : Nat) (l : List β), gs[j]? = some b → ls[j]? = some l → (row (α := β) e2 (some ⟨b, 0, none⟩) m l).p (fun x => x = b) M w) ∧ ∀ x, F x ↔ x ∈ g :: gs
 st := by
  rintro F M M' w w' ⟨h1, h2, h3, h4, h5⟩ hb hm hs';refine ⟨(row _ _ _ _).st _ M M' w w' h1 (fun b hlt hF => hb b hlt (hF.imp (fun e => (h5 b).2 (by rw [e]; simp)) id)) hm hs', h2, h3, fun j b l hj hl => ?_, h5⟩;exact (row _ _ _ _).st _ M M' w w' (h4 j b l hj hl) (fun x hlt hF => hb x hlt (hF.imp (fun e => (h5 x).2 (by rw [e]; exact List.mem_cons_of_mem _ (List.mem_of_getElem? hj))) id)) hm hs'
section
variable {ro : Option Nat} {P : Program} {M0 F0 : Nat → Prop} {w0 : World} {n : Nm} {σ : List (Nat × Value)} {Ξ : List Xsn} {Γ : List Asn} {d : Nat} {ty : TypeId} {pos : String} {af : Array Edge}
variable {ops : Array Oper} {Q : Exit → Act → World → Prop} {S S' : Act → World → Prop} {β : Type} [Rp β]
theorem clabel {l : Nat} (k : TrN Q .normal S) : TrC ro P Q S (.label l) := fun a w h => wpIn_label (k a w h)
theorem rowEq {α : Type} [Rp α] {e : TypeId} {A : Option Addr} {c i : Nat} {l l' : List α} {Ξ' : List Xsn} {a : Act} {w : World} (hi : At (row e A c l) i Ξ) (he : l = l') (hs : SetAt (row e A c l') i Ξ Ξ') (h : St M0 F0 w0 n σ Ξ Γ a w) : St M0 F0 w0 n σ Ξ' Γ a w := by
 subst he;obtain ⟨rfl, hlt⟩ := hs.eq;have : Ξ.set i (row e A c l) = Ξ := by
  refine List.ext_getElem? fun j => ?_;rw [List.getElem?_set]
  split
  ·rename_i e1; subst e1; rw [hi.get]
  ·rfl
 rw [this]; exact h
theorem o_strowE {α : Type} [Rp α] {dst : Option Nat} {x y : Operand} {t e : TypeId} {g c : Nat} {l l' : List α} {i j : Nat} {z : α} {yz : Rp.Lay α} {v : Value} {Ξ' : List Xsn} (hdst : dst = none) (hsz : ∀ w, (sizeOf t).run P w = .ok (Rp.size α) w) (hx : ev σ x = some (.pointer (some ⟨g, 0 + j * Rp.size α, none⟩))) (hy : ev σ y = some v)
  (hvc : v.cells = (Rp.enc z yz).toArray) (hi : At (row e (some ⟨g, 0, none⟩) c l) i Ξ) (hj : j < l.length) (he : l.set j z = l') (hs' : SetAt (row e (some ⟨g, 0, none⟩) c l') i Ξ Ξ') (hg : Sub (Rp.asn z yz) Γ) :
  OpR P ⟨dst, .store t x y, ty, pos, af, none⟩ (St M0 F0 w0 n σ Ξ Γ) (St M0 F0 w0 n σ Ξ' Γ) := by
 subst he; exact o_strow hdst hsz hx hy hvc hi hj hs' hg
theorem tab0 {e1 e2 : TypeId} {g c m i : Nat} {hs hs2 : List Hdr} {ls : List (List β)} {Ξ' : List Xsn} {a : Act} {w : World} (hi : At (row (α := Hdr) e1 (some ⟨g, 0, none⟩) c hs) i Ξ) (he1 : hs = hs2) (he2 : [] = ls) (hs' : SetAt (tab (β := β) e1 e2 g c hs2 m [] ls) i Ξ Ξ') (h : St M0 F0 w0 n σ Ξ Γ a w) : St M0 F0 w0 n σ Ξ' Γ a w := by
 subst he1;subst he2;obtain ⟨hsl, Fs, hh⟩ := h;obtain ⟨rfl, _⟩ := hs'.eq;refine ⟨hsl, Fs, hh.swapX hi.get fun F hF hp => ?_⟩;have ho := (row_own hp).1;have e : F = fun b => b = g := funext fun b => propext (ho b);subst e;exact ⟨hp, by simp, rfl, fun j b l hj => by simp at hj, fun x => by simp⟩
theorem isTabH {e1 e2 : TypeId} {g c m i j : Nat} {hs : List Hdr} {gs : List Nat} {ls : List (List β)} {h : Hdr} (hi : At (tab e1 e2 g c hs m gs ls) i Ξ) (hj : hs[j]? = some h) : ∀ a w, St M0 F0 w0 n σ Ξ Γ a w → Is g (0 + j * Rp.size Hdr) [.slice h.A h.n h.c] w := by
 rintro a w ⟨_, Fs, hh⟩;obtain ⟨F, hF, hp⟩ := hh.ex.at hi.get;obtain ⟨_, h1, _⟩ := row_at hp.1 hj;exact h1
theorem isTab {e1 e2 : TypeId} {g c m i j k b : Nat} {hs : List Hdr} {gs : List Nat} {ls : List (List β)} {l : List β} {x : β} (hi : At (tab e1 e2 g c hs m gs ls) i Ξ) (hb : gs[j]? = some b) (hl : ls[j]? = some l) (hk : l[k]? = some x) : ∀ a w, St M0 F0 w0 n σ Ξ Γ a w → ∃ y : Rp.Lay β, Is b (0 + k * Rp.size β) (Rp.enc x y) w := by
 rintro a w ⟨_, Fs, hh⟩;obtain ⟨F, hF, hp⟩ := hh.ex.at hi.get;obtain ⟨y, h1, _⟩ := row_at (hp.2.2.2.1 j b l hb hl) hk;exact ⟨y, h1⟩
theorem isTabI {e1 e2 : TypeId} {g c m i j k b : Nat} {hs : List Hdr} {gs : List Nat} {ls : List (List Int)} {l : List Int} {x : Int} (hi : At (tab e1 e2 g c hs m gs ls) i Ξ) (hb : gs[j]? = some b) (hl : ls[j]? = some l) (hk : l[k]? = some x) : ∀ a w, St M0 F0 w0 n σ Ξ Γ a w → Is b (0 + k * Rp.size Int) [.int .i64 x] w := fun a w h => by
 obtain ⟨_, h1⟩ := isTab hi hb hl hk a w h;exact h1
theorem o_tst {dst : Option Nat} {x y : Operand} {t e1 e2 : TypeId} {g c m i j k b : Nat} {hs : List Hdr} {gs : List Nat} {ls : List (List β)} {l : List β} {z : β} {yz : Rp.Lay β} {v : Value} {ls' : List (List β)} {Ξ' : List Xsn} (hdst : dst = none) (hsz : ∀ w, (sizeOf t).run P w = .ok (Rp.size β) w) (hx : ev σ x = some (.pointer (some ⟨b, 0 + k * Rp.size β, none⟩))) (hy : ev σ y = some v)
  (hvc : v.cells = (Rp.enc z yz).toArray) (hi : At (tab e1 e2 g c hs m gs ls) i Ξ) (hb : gs[j]? = some b) (hl : ls[j]? = some l) (hk : k < l.length) (he : ls.set j (l.set k z) = ls') (hs' : SetAt (tab e1 e2 g c hs m gs ls') i Ξ Ξ') (hg : Sub (Rp.asn z yz) Γ) :
  OpR P ⟨dst, .store t x y, ty, pos, af, none⟩ (St M0 F0 w0 n σ Ξ Γ) (St M0 F0 w0 n σ Ξ' Γ) := by
 subst hdst;subst he;refine OpR.of_skip rfl fun a w ⟨hsl, Fs, hh⟩ => ?_;obtain ⟨rfl, _⟩ := hs'.eq;obtain ⟨F, hF, hr, hnd, hlen, hrow, hFx⟩ := hh.ex.at hi.get;have hmem := List.mem_of_getElem? hb;have hFb : F b := (hFx b).2 (List.mem_cons_of_mem _ hmem);have hMb : (fun b => M0 b ∨ own Fs b) b := .inr ⟨F, List.mem_of_getElem? hF, hFb⟩;obtain ⟨w', h1, h2, h3⟩ := row_set (P := P) (hrow j b l hb hl) hMb hk z yz (fun p hp => hh.ga p (hg.mem p hp));have hnd' := List.nodup_cons.1 hnd;have hne : ∀ {u : Nat → Prop} {b' : Nat}, b' < w.heap.size → b' ≠ b → w'.heap[b']? = w.heap[b']? := fun hlt hne => h2.block _ hlt hne;have hother : ∀ {γ : Type} [Rp γ] (e : TypeId) (b' cc : Nat) (l' : List γ), b' ≠ b → (row e (some ⟨b', 0, none⟩) cc l').p (fun x => x = b') (fun b => M0 b ∨ own Fs b) w → (row e (some ⟨b', 0, none⟩) cc l').p (fun x => x = b') (fun b => M0 b ∨ own Fs b) w' := by
  intro γ _ e b' cc l' hbb hp;refine (row _ _ _ _).st _ _ _ _ _ hp (fun u hlt hF' => h2.block u hlt ?_) (fun _ _ h => h) h2.size;rintro rfl;rcases hF' with e' | hn
  ·exact hbb e'.symm
  ·exact hn hMb
 refine ⟨w', ?_, hsl, Fs, hh.set hF (w' := w') ⟨h2.os, h2.tape, h2.output, h2.size, fun u hlt hn => h2.block u hlt (fun e => hn (by rw [e]; exact hFb))⟩ ⟨hother _ _ _ _ (fun e => hnd'.1 (by rw [e]; exact hmem)) hr, hnd, by rw [List.length_set]; exact hlen, fun j' b' l' hb' hl' => ?_, hFx⟩⟩
 ·simp only [execOp, hsl.ev hx, hsl.ev hy, Instr.storeAt, Instr.sureAddr, storeVar, Sem.run_bind, Sem.run_pure, Result.andThen_ok, hsz, hvc, List.size_toArray, ne_eq, not_true_eq_false, if_false];rw [Nat.zero_add] at h1;simp [Rp.len, h1]
 ·by_cases hj : j = j'
  ·subst hj;rw [hb] at hb'; cases hb';rw [List.getElem?_set_self (List.getElem?_eq_some_iff.1 hl).1] at hl';cases hl';exact h3
  ·rw [List.getElem?_set_ne hj] at hl';refine hother _ _ _ _ (fun e => hj ?_) (hrow j' b' l' hb' hl');subst e;exact (List.getElem?_inj (List.getElem?_eq_some_iff.1 hb).1 hnd'.2).1 (hb.trans hb'.symm)
theorem o_tput {dst : Option Nat} {x y : Operand} {t e1 e2 : TypeId} {g c m i j k b : Nat} {hs : List Hdr} {gs : List Nat} {ls : List (List β)} {l : List β} {Ξ1 : List Xsn} {nn cc : Nat} {hs' : List Hdr} {ls' : List (List β)} (hdst : dst = none) (hsz : ∀ w, (sizeOf t).run P w = .ok 1 w) (hx : ev σ x = some (.pointer (some ⟨g, 0 + j * Rp.size Hdr, none⟩))) (hy : ev σ y = some (.slice (some ⟨b, 0, none⟩) nn cc))
  (ht : takeAll [i, k] Ξ = some ([tab e1 e2 g c hs m gs ls, row (α := β) e2 (some ⟨b, 0, none⟩) m l], Ξ1)) (hj : j < hs.length) (he1 : hs.set j ⟨some ⟨b, 0, none⟩, nn, cc⟩ = hs') (he2 : ls ++ [l] = ls') :
  OpR P ⟨dst, .store t x y, ty, pos, af, none⟩ (St M0 F0 w0 n σ Ξ Γ) (St M0 F0 w0 n σ (tab e1 e2 g c hs' m (gs ++ [b]) ls' :: Ξ1) Γ) := by
 subst hdst;subst he1;subst he2;refine OpR.of_skip rfl fun a w ⟨hsl, Fs, hh⟩ => ?_;obtain ⟨Gs, Hs, hp, hin, hrest⟩ := hh.select (Γi := []) ht (fun p hp => by cases hp);obtain ⟨G1, G2, rfl⟩ : ∃ G1 G2, Gs = [G1, G2] := by
  match Gs, hin.ex with
  | [], h => exact h.elim
  | [_], h => exact h.2.elim
  | [G1, G2], _ => exact ⟨G1, G2, rfl⟩
  | _ :: _ :: _ :: _, h => exact h.2.2.elim
 obtain ⟨⟨hr, hnd, hlen, hrow, hFx⟩, hb, _⟩ := hin.ex;have hpw := hin.dis;have hb0 := row_own hb;have e2' : G2 = fun x => x = b := funext fun u => propext (hb0.1 u);have hdis : ∀ u, G1 u → ¬ G2 u := (List.pairwise_cons.1 hpw).1 G2 (by simp);have hG1g : G1 g := (hFx g).2 (by simp);have hMg : (fun u => (fun b => M0 b ∨ own Hs b) u ∨ own [G1, G2] u) g := .inr ⟨G1, by simp, hG1g⟩;obtain ⟨w', h1, h2, h3⟩ := row_set (P := P) hr hMg hj ⟨some ⟨b, 0, none⟩, nn, cc⟩ () (fun p hp => by cases hp);have hbn : b ∉ g :: gs := fun hm => hdis b ((hFx b).2 hm) ((hb0.1 b).2 rfl);have hnd' := List.nodup_cons.1 hnd;have hother : ∀ {γ : Type} [Rp γ] (e : TypeId) (b' cc' : Nat) (l' : List γ), b' ≠ g → (row e (some ⟨b', 0, none⟩) cc' l').p (fun x => x = b') (fun u => (fun b => M0 b ∨ own Hs b) u ∨ own [G1, G2] u) w → (row e (some ⟨b', 0, none⟩) cc' l').p (fun x => x = b') (fun u => (fun b => M0 b ∨ own Hs b) u ∨ own [G1, G2] u) w' := by
  intro γ _ e b' cc' l' hbb hp;refine (row _ _ _ _).st _ _ _ _ _ hp (fun u hlt hF' => h2.block u hlt ?_) (fun _ _ h => h) h2.size;rintro rfl;rcases hF' with e' | hn
  ·exact hbb e'.symm
  ·exact hn hMg
 let G : Nat → Prop := fun u => G1 u ∨ G2 u
 have hG : ∀ u, own [G] u ↔ own [G1, G2] u := fun u => by simp [own_cons, own_nil, G]
 have hM2 : (fun u => (fun b => M0 b ∨ own Hs b) u ∨ own [G] u) = (fun u => (fun b => M0 b ∨ own Hs b) u ∨ own [G1, G2] u) := funext fun u => by rw [hG u]
 have key : Hp (fun b => M0 b ∨ own Hs b) (own [G1, G2]) w [tab e1 e2 g c (hs.set j ⟨some ⟨b, 0, none⟩, nn, cc⟩) m (gs ++ [b]) (ls ++ [l])] [] [G] w' := by
  refine ⟨⟨?_, trivial⟩, List.pairwise_singleton _ _, ?_, ?_, ?_, fun p hp => (by cases hp), ⟨h2.os, h2.tape, h2.output, h2.size, fun u hlt hn => h2.block u hlt (fun e => hn (by rw [e]; exact ⟨G1, by simp, hG1g⟩))⟩, hin.m0, hin.f0⟩
  ·rw [hM2];refine ⟨h3, ?_, by simp [hlen], fun j' b' l' hb' hl' => ?_, fun u => ?_⟩
   ·rw [← List.cons_append];exact List.nodup_append.2 ⟨hnd, by simp, fun u hu v hv => by rw [List.mem_singleton.1 hv]; exact fun e => hbn (e ▸ hu)⟩
   ·rcases Nat.lt_or_ge j' gs.length with hlt | hge
    ·rw [List.getElem?_append_left hlt] at hb';rw [List.getElem?_append_left (by omega)] at hl';exact hother _ _ _ _ (fun e => hnd'.1 (by rw [← e]; exact List.mem_of_getElem? hb')) (hrow j' b' l' hb' hl')
    ·rw [List.getElem?_append_right hge] at hb';rw [List.getElem?_append_right (by omega)] at hl';have hj0 : j' - gs.length = 0 := by have := (List.getElem?_eq_some_iff.1 hb').1; simpa using this
     rw [hj0] at hb';rw [show j' - ls.length = 0 by omega] at hl';simp at hb' hl';subst hb'; subst hl';exact hother _ _ _ _ (fun e => hbn (by rw [e]; simp)) (by rw [e2'] at hb ⊢; exact hb)
   ·show G1 u ∨ G2 u ↔ _;rw [hFx u, hb0.1 u];simp only [List.mem_cons, List.mem_append, List.mem_nil_iff, or_false, or_assoc]
  ·exact fun u hu => hin.dis0 u ((hG u).1 hu)
  ·exact fun u hu => Nat.lt_of_lt_of_le (hin.lt u ((hG u).1 hu)) h2.size
  ·exact fun u hu hlt => (hG u).1 hu
 have hfin : Hp M0 F0 w0 (tab e1 e2 g c (hs.set j ⟨some ⟨b, 0, none⟩, nn, cc⟩) m (gs ++ [b]) (ls ++ [l]) :: Ξ1) Γ ([G] ++ Hs) w' := by
  have := hh.back hp hrest key
  simpa using this
 refine ⟨w', ?_, hsl, [G] ++ Hs, hfin⟩;have hc : (Value.slice (some ⟨b, 0, none⟩) nn cc).cells = #[.slice (some ⟨b, 0, none⟩) nn cc] := rfl;have h1' : (storeCells ⟨g, 0 + j * Rp.size Hdr, none⟩ [.slice (some ⟨b, 0, none⟩) nn cc]).run P w = .ok () w' := h1;simp only [execOp, hsl.ev hx, hsl.ev hy, Instr.storeAt, Instr.sureAddr, storeVar, Sem.run_bind, Sem.run_pure, Result.andThen_ok, hsz];rw [Nat.zero_add] at h1';simp [hc, h1']
theorem freezeTab {e1 e2 : TypeId} {g c m i : Nat} {hs : List Hdr} {gs : List Nat} {ls : List (List β)} {Ξ' : List Xsn} {a : Act} {w : World} (hi : takeAt i Ξ = some (tab e1 e2 g c hs m gs ls, Ξ')) (hh0 : hs = gs.map (fun b => ⟨some ⟨b, 0, none⟩, m, m⟩)) (hm : ∀ l ∈ ls, l.length = m) (h : St M0 F0 w0 n σ Ξ Γ a w) : St M0 F0 w0 n σ Ξ' (slA (some ⟨g, 0, none⟩) ls :: Γ) a w := by
 obtain ⟨hs', Fs, hh⟩ := h;obtain ⟨F, Fs', h1, ⟨hr, hnd, hlen, hrow, hFx⟩, h3⟩ := hh.ex.takeAt hi;have hp := takeAt_perm h1;have hown : ∀ b, own Fs b ↔ F b ∨ own Fs' b := fun b => (own_perm hp b).trans own_cons;have hpw := List.pairwise_cons.1 (perm_pairwise hp hh.dis);have hM : ∀ b, b < w.heap.size → (M0 b ∨ own Fs' b) → (M0 b ∨ own Fs b) := fun b _ hm => hm.imp id (fun h => (hown b).2 (.inr h));have hFn : ∀ b, F b → ¬ (M0 b ∨ own Fs' b) := by
  rintro b hb (hm | ⟨G, hG, hg'⟩)
  ·exact hh.dis0 b ((hown b).2 (.inl hb)) hm
  ·exact hpw.1 G hG b hb hg'
 refine ⟨hs', Fs', h3.st (fun _ _ _ => rfl) hM (Nat.le_refl _), hpw.2, fun b hb => hh.dis0 b ((hown b).2 (.inr hb)), fun b hb => hh.lt b ((hown b).2 (.inr hb)), fun b hb => hh.old b ((hown b).2 (.inr hb)), ?_, hh.up, hh.m0, hh.f0⟩;intro p hp';rcases List.mem_cons.1 hp' with rfl | hp'
 ·intro j l hj;have hjl := (List.getElem?_eq_some_iff.1 hj).1;have hjg : j < gs.length := by omega
  have hb : gs[j]? = some gs[j] := List.getElem?_eq_getElem hjg;have hjh : hs[j]? = some ⟨some ⟨gs[j], 0, none⟩, m, m⟩ := by rw [hh0, List.getElem?_map, hb]; rfl
  obtain ⟨_, c1, _⟩ := row_at hr hjh;have hl := hm l (List.mem_of_getElem? hj);have hfg : F g := (hFx g).2 (by simp);have hgb : F gs[j] := (hFx _).2 (List.mem_cons_of_mem _ (List.getElem_mem _));refine ⟨g, 0, (some ⟨gs[j], 0, none⟩, m), rfl, hFn g hfg, (row_own hr).2, fun i v hv => ?_, fun p hp => ?_⟩
  ·have hv' : ([Value.slice (some ⟨gs[j], 0, none⟩) l.length m])[i]? = some v := hv;rw [hl] at hv';exact c1 i v hv'
  ·have hrj := hrow j gs[j] l hb hj;simp only [Rp.asn, List.mem_cons, List.mem_nil_iff, or_false] at hp;rcases hp with rfl | rfl
   ·intro q x hq;obtain ⟨y, d1, d2⟩ := row_at hrj hq;exact ⟨gs[j], 0, y, rfl, hFn _ hgb, (row_own hrj).2, d1, fun p hp => p.st _ _ _ _ (d2 p hp) (fun _ _ _ => rfl) hM (Nat.le_refl _)⟩
   ·intro h; cases h
 ·exact p.st _ _ _ _ (hh.ga p hp') (fun _ _ _ => rfl) hM (Nat.le_refl _)
end
/-! tables of numbers -/
def mkT (N M : Nat) (f : Nat → Nat → Int) : List (List Int) := (List.range N).map fun r => (List.range M).map (f r)
def upF (f : Nat → Nat → Int) (r k : Nat) (v : Int) : Nat → Nat → Int := fun r' k' => if r' = r ∧ k' = k then v else f r' k'
theorem mkT_length (N M : Nat) (f) : (mkT N M f).length = N := by simp [mkT]
theorem mkT_row {N M : Nat} {f : Nat → Nat → Int} {r : Nat} (h : r < N) : (mkT N M f)[r]? = some ((List.range M).map (f r)) := by simp [mkT, h]
theorem mkR_at {M : Nat} {f : Nat → Int} {k : Nat} (h : k < M) : ((List.range M).map f)[k]? = some (f k) := by simp [h]
theorem mkR_length (M : Nat) (f : Nat → Int) : ((List.range M).map f).length = M := by simp
theorem mkT_mem {N M : Nat} {f : Nat → Nat → Int} : ∀ l ∈ mkT N M f, l.length = M := by
 intro l hl;simp only [mkT, List.mem_map] at hl;obtain ⟨r, _, rfl⟩ := hl;simp
theorem mkT_ext {N M : Nat} {f g : Nat → Nat → Int} (h : ∀ r k, r < N → k < M → f r k = g r k) : mkT N M f = mkT N M g := by
 unfold mkT;refine List.map_congr_left fun r hr => List.map_congr_left fun k hk => h r k (List.mem_range.1 hr) (List.mem_range.1 hk)
theorem mkR_set {M : Nat} {f g : Nat → Int} {k : Nat} {v : Int} (h : ∀ k', k' < M → g k' = if k' = k then v else f k') : ((List.range M).map f).set k v = (List.range M).map g := by
 refine List.ext_getElem (by simp) fun i h1 h2 => ?_;simp only [List.length_set, List.length_map, List.length_range] at h1;rw [List.getElem_set];simp only [List.getElem_map, List.getElem_range];rw [h i h1]
 by_cases e : k = i
 ·rw [if_pos e, if_pos e.symm]
 ·rw [if_neg e, if_neg (fun h => e h.symm)]
theorem mkT_set {N M : Nat} {f g : Nat → Nat → Int} {r k : Nat} {v : Int} (h : ∀ r' k', r' < N → k' < M → g r' k' = if r' = r ∧ k' = k then v else f r' k') : (mkT N M f).set r (((List.range M).map (f r)).set k v) = mkT N M g := by
 refine List.ext_getElem (by simp [mkT]) fun i h1 h2 => ?_;simp only [List.length_set, mkT_length] at h1;rw [List.getElem_set];simp only [mkT, List.getElem_map, List.getElem_range]
 by_cases e : r = i
 ·subst e;rw [if_pos rfl];refine mkR_set fun k' hk' => ?_;rw [h r k' h1 hk']
  by_cases e2 : k' = k
  ·rw [if_pos ⟨rfl, e2⟩, if_pos e2]
  ·rw [if_neg (fun h => e2 h.2), if_neg e2]
 ·rw [if_neg e];refine List.map_congr_left fun k' hk' => ?_;rw [h i k' h1 (List.mem_range.1 hk'), if_neg (fun h => e h.1.symm)]
theorem mkT_rep {N M k : Nat} (h : k = N) : List.replicate k (List.replicate M (0 : Int)) = mkT N M (fun _ _ => 0) := by
 subst h;unfold mkT;refine List.ext_getElem (by simp) fun i h1 h2 => ?_;simp only [List.getElem_replicate, List.getElem_map];refine List.ext_getElem (by simp) fun j h3 h4 => ?_;simp
def hd (M : Nat) (gs : List Nat) (N : Nat) : List Hdr := gs.map (fun b => ⟨some ⟨b, 0, none⟩, M, M⟩) ++ List.replicate (N - gs.length) ⟨none, 0, 0⟩
theorem hd_0 (M N : Nat) : List.replicate N (⟨none, 0, 0⟩ : Hdr) = hd M [] N := by simp [hd]
theorem hd_length {M : Nat} {gs : List Nat} {N : Nat} (h : gs.length ≤ N) : (hd M gs N).length = N := by simp [hd]; omega
theorem hd_set {M : Nat} {gs : List Nat} {N b : Nat} (h : gs.length < N) : (hd M gs N).set gs.length ⟨some ⟨b, 0, none⟩, M, M⟩ = hd M (gs ++ [b]) N := by
 unfold hd;rw [List.set_append_right _ _ (by simp), List.length_map, Nat.sub_self, show N - gs.length = (N - (gs ++ [b]).length) + 1 by simp; omega, List.replicate_succ, List.set_cons_zero, List.map_append, List.append_assoc]
 rfl
theorem hd_all {M : Nat} {gs : List Nat} {N : Nat} (h : gs.length = N) : hd M gs N = gs.map (fun b => ⟨some ⟨b, 0, none⟩, M, M⟩) := by simp [hd, h]
theorem hd_at {M : Nat} {gs : List Nat} {N j : Nat} (h : gs.length = N) (hj : j < gs.length) : (hd M gs N)[j]? = some ⟨some ⟨gs[j], 0, none⟩, M, M⟩ := by
 rw [hd_all h, List.getElem?_map, List.getElem?_eq_getElem hj]; rfl
instance instRpPair : Rp (Nat × Nat) where
 Lay := Unit
 size := 2
 enc x _ := [.int .i64 (x.1 : Int), .int .i64 (x.2 : Int)]
 len _ _ := rfl
 one _ _ v hv := by
  simp only [List.mem_cons, List.mem_nil_iff, or_false] at hv;rcases hv with rfl | rfl <;> rfl
 asn _ _ := []
end Go.Sx
end
section
namespace Go.Sx
open Go Go.RowKit
section
variable {ro : Option Nat} {P : Program} {M0 F0 : Nat → Prop} {w0 : World} {n : Nm} {σ : List (Nat × Value)} {Ξ Ξ1 : List Xsn} {Γ Γ1 : List Asn} {d : Nat} {ty : TypeId} {pos : String} {af : Array Edge}
variable {ops : Array Oper} {Q : Exit → Act → World → Prop} {S S' : Act → World → Prop}
/-! bundles -/
theorem Hp.unbunO {Fs : List (Nat → Prop)} {w : World} (h : Hp M0 F0 w0 (Sx.bun Ξ1 Γ1 :: Ξ) Γ Fs w) : ∃ Fs', Hp M0 F0 w0 (Ξ1 ++ Ξ) (Γ1 ++ Γ) Fs' w ∧ ∀ b, own Fs' b ↔ own Fs b := by
 obtain ⟨F, Fs2, rfl⟩ : ∃ F Fs2, Fs = F :: Fs2 := by
  cases Fs with
  | nil => exact h.ex.elim
  | cons F Fs2 => exact ⟨F, Fs2, rfl⟩
 obtain ⟨⟨Gs, h1, h2, h3, h4⟩, h5⟩ := h.ex;have hpw := List.pairwise_cons.1 h.dis;have ho : ∀ b, own (Gs ++ Fs2) b ↔ own (F :: Fs2) b := fun b => by rw [own_append, own_cons, h1 b]
 refine ⟨Gs ++ Fs2, h.re ho (List.pairwise_append.2 ⟨h2, hpw.2, fun G hG H hH b hg hh => hpw.1 H hH b ((h1 b).2 ⟨G, hG, hg⟩) hh⟩) (h3.append h5) fun p hp => ?_, ho⟩;rcases List.mem_append.1 hp with hp | hp
 ·exact h4 p hp
 ·exact h.ga p hp
theorem Hp.toHead {is : List Nat} {xs Ξ' : List Xsn} {Γi : List Asn} {Fs : List (Nat → Prop)} {w : World} (h : Hp M0 F0 w0 Ξ Γ Fs w) (hs : takeAll is Ξ = some (xs, Ξ')) (hg : ∀ p ∈ Γi, p ∈ Γ) : ∃ Fs', Hp M0 F0 w0 (xs ++ Ξ') (Γi ++ Γ) Fs' w := by
 obtain ⟨Gs, Hs, hp, hin, hr⟩ := h.select hs hg;exact ⟨_, h.back hp hr hin⟩
theorem stBun {is : List Nat} {Ξ' : List Xsn} {a : Act} {w : World} (hs : takeAll is Ξ = some (Ξ1, Ξ')) (hg : Sub Γ1 Γ) (h : St M0 F0 w0 n σ Ξ Γ a w) : St M0 F0 w0 n σ (bun Ξ1 Γ1 :: Ξ') Γ a w := by
 obtain ⟨hsl, Fs, hh⟩ := h;obtain ⟨Fs1, h1⟩ := hh.toHead hs hg.mem;obtain ⟨Fs2, h2, _⟩ := h1.bun (Γ1 := Γ1) (fun p hp => List.mem_append_left _ hp);exact ⟨hsl, Fs2, h2.less fun p hp => List.mem_append_right _ hp⟩
theorem stUnbun {i : Nat} {Ξ' : List Xsn} {a : Act} {w : World} (hs : takeAll [i] Ξ = some ([bun Ξ1 Γ1], Ξ')) (h : St M0 F0 w0 n σ Ξ Γ a w) : St M0 F0 w0 n σ (Ξ1 ++ Ξ') (Γ1 ++ Γ) a w := by
 obtain ⟨hsl, Fs, hh⟩ := h;obtain ⟨Fs1, h1⟩ := hh.toHead (Γi := []) hs (fun p hp => by cases hp);obtain ⟨Fs2, h2, _⟩ := Hp.unbunO h1;exact ⟨hsl, Fs2, h2⟩
theorem stPerm {is : List Nat} {xs Ξ' : List Xsn} {a : Act} {w : World} (hs : takeAll is Ξ = some (xs, Ξ')) (h : St M0 F0 w0 n σ Ξ Γ a w) : St M0 F0 w0 n σ (xs ++ Ξ') Γ a w := by
 obtain ⟨hsl, Fs, hh⟩ := h;obtain ⟨Fs1, h1⟩ := hh.toHead (Γi := []) hs (fun p hp => by cases hp);exact ⟨hsl, Fs1, h1⟩
theorem St.nil {y : Option Addr × Nat} {i : Nat} (hi : At (nilA y) i Γ) : ∀ a w, St M0 F0 w0 n σ Ξ Γ a w → (y.1 = none → y.2 = 0) := fun a w h => by
 obtain ⟨hs, Fs, hh⟩ := h;exact hh.ga _ (List.mem_of_getElem? hi.get)
theorem con_bun {f : FuncId} {vs : List Value} {Ξ0 : List Xsn} {Γi : List Asn} {X : Type} {rv : X → Value} {Ξ1' Ξo : X → List Xsn} {Γo : X → List Asn} (h : Con P f vs (Ξ1 ++ Ξ0) Γi X rv (fun x => Ξ1' x ++ Ξo x) Γo) :
  Con P f vs (bun Ξ1 [] :: Ξ0) Γi X rv (fun x => bun (Ξ1' x) [] :: Ξo x) Γo := by
 intro M0 Fs w hh;obtain ⟨Fs1, h1, ho⟩ := Hp.unbunO hh;refine (h M0 Fs1 w (h1.own0 (Gs' := Fs1) ho)).mono ?_;rintro e w' ⟨x, Fs2, rfl, h2⟩;obtain ⟨Fs3, h3, _⟩ := h2.bun (Γ1 := []) (fun p hp => by cases hp);exact ⟨x, Fs3, rfl, h3.own0 (fun b => (ho b).symm)⟩
/-! rows that become shorter -/
theorem RowE.take {α : Type} [Rp α] {M : Nat → Prop} {w : World} {l : List α} {xs : List Value} (h : RowE M w l xs) (k : Nat) (hk : k ≤ l.length) : RowE M w (l.take k) (xs.take (k * Rp.size α)) := by
 obtain ⟨x1, x2, e, h1, h2⟩ := h.split (l.take k) (l.drop k) (List.take_append_drop k l).symm;have hl := h1.length;rw [List.length_take, Nat.min_eq_left hk] at hl;rw [e, ← hl, List.take_left' rfl];exact h1
theorem rowTk {α : Type} [Rp α] {e : TypeId} {A : Option Addr} {c i : Nat} {l : List α} {Ξ' : List Xsn} {a : Act} {w : World} (k : Nat) (hk : k ≤ l.length) (hi : At (row e A c l) i Ξ) (hs : SetAt (row e A c (l.take k)) i Ξ Ξ') (h : St M0 F0 w0 n σ Ξ Γ a w) : St M0 F0 w0 n σ Ξ' Γ a w := by
 obtain ⟨hsl, Fs, hh⟩ := h;obtain ⟨rfl, _⟩ := hs.eq;refine ⟨hsl, Fs, hh.swapX hi.get fun F hF hp => ?_⟩;obtain ⟨xs, ho, hFb, hr⟩ := hp;have hlen : (l.take k).length = k := by rw [List.length_take, Nat.min_eq_left hk]
 have hr2 := hr.take k hk;refine ⟨xs.take (k * Rp.size α), ⟨by rw [hr2.length], ?_⟩, fun x => by rw [hFb x]; cases A <;> rfl, hr2⟩
 rcases ho.2 with ⟨h0, h1⟩ | ⟨g, cap, cur, hv, hb, hg, hle, hmax, hcs, hxs⟩
 ·left
  obtain rfl : l = [] := List.length_eq_zero_iff.1 h1;simp only [List.take_nil];exact ⟨h0, rfl⟩
 ·right
  cases hv;refine ⟨g, c, cur, rfl, hb, hg, by omega, hmax, hcs, ?_⟩;rw [hlen, ← hxs, List.take_take, Nat.min_eq_left (Nat.mul_le_mul_right _ hk)]
theorem slh_val {A : Option Addr} {k c z : Nat} : Value.slice (if c = 0 then A else A.map (·.add (0 * z))) (k - 0) (c - 0) = .slice A k c := by
 have : (if c = 0 then A else A.map (·.add (0 * z))) = A := by
  split
  ·rfl
  ·cases A with
   | none => rfl
   | some a => simp [Addr.add]
 rw [this]; rfl
theorem o_clr {x : Operand} {t e : TypeId} {A : Option Addr} {c i lo : Nat} {l : List ByteArray} {N : Nat} {Ξ' : List Xsn} (hN : l.length = N) (ht : P.underlying t = some (.slice e)) (hz : ∀ w, (zeroValue e).run P w = .ok (.string ⟨#[]⟩) w)
  (hx : ev σ x = some (.slice (if c = lo then A else A.map (·.add (lo * 1))) (N - lo) (c - lo))) (hlo : lo ≤ l.length) (hi : At (row (α := ByteArray) e A c l) i Ξ) (hs' : SetAt (row (α := ByteArray) e A c (l.take lo ++ List.replicate (N - lo) ⟨#[]⟩)) i Ξ Ξ') :
  OpR P ⟨none, .call ⟨.builtin .clear, #[x], #[t]⟩, ty, pos, af, none⟩ (St M0 F0 w0 n σ Ξ Γ) (St M0 F0 w0 n σ Ξ' Γ) := by
 subst hN;refine OpR.of_run rfl fun a w ⟨hsl, Fs, hh⟩ => ?_;obtain ⟨rfl, _⟩ := hs'.eq;obtain ⟨F, hF, xs, ho, hFb, hr⟩ := hh.ex.at hi.get;rcases Nat.lt_or_ge lo l.length with hlt | hge
 ·rcases ho.2 with ⟨h0, h1⟩ | ⟨g, cap, cur, hv, hb, hg, hle, hmax, hcs, hxs⟩
  ·omega
  ·cases hv;rw [if_neg (by omega)] at hx;have hsz : Rp.size ByteArray = 1 := rfl;rw [hsz, Nat.mul_one] at hcs hxs;have hone : ∀ v ∈ List.replicate (l.length - lo) (Value.string ⟨#[]⟩), v.oneCell' = true := fun v hv => by rw [List.eq_of_mem_replicate hv]; rfl
   have hst := run_storeCells_at P g lo e (List.replicate (l.length - lo) (Value.string ⟨#[]⟩)) 0 cur w hg (by rw [List.length_replicate]; omega) hone;rw [Nat.add_zero, List.length_replicate] at hst;have hzc : (Builtin.zeroCells (Value.string ⟨#[]⟩).cells (l.length - lo)).toList = List.replicate (l.length - lo) (Value.string ⟨#[]⟩) := by
    show (Builtin.zeroCells #[Value.string ⟨#[]⟩] (l.length - lo)).toList = _;simp only [Builtin.zeroCells];apply List.ext_getElem
    ·simp
    ·intro i h1 h2;simp [Nat.mod_one]
   obtain ⟨m, hm⟩ : ∃ m, l.length - lo = m + 1 := ⟨l.length - lo - 1, by omega⟩;have hrun : (Builtin.clear_ #[t] ty #[.slice (some ⟨g, lo, none⟩) (l.length - lo) (c - lo)]).run P w = .ok (.tuple #[]) (w.setRow g (cur.toList.take lo ++ List.replicate (l.length - lo) (Value.string ⟨#[]⟩) ++ cur.toList.drop (lo + (l.length - lo))).toArray) := by
    rw [hm] at hst hzc ⊢;simp [Builtin.clear_, run_underlying ht, hz, hzc, hst]
   have hx2 : ev σ x = some (.slice (some ⟨g, lo, none⟩) (l.length - lo) (c - lo)) := by
    rw [hx]; simp [Addr.add];(try omega)
   refine ⟨.tuple #[], _, by simp [execOp, resolve, invoke, builtin, hsl.ev hx2, hrun, Result.andThen], hsl, Fs, hh.set hF (w' := w.setRow g (cur.toList.take lo ++ List.replicate (l.length - lo) (Value.string ⟨#[]⟩) ++ cur.toList.drop (lo + (l.length - lo))).toArray) ⟨rfl, rfl, rfl, by simp, fun b _ hn => setRow_other w g b _ (fun e' => hn ((hFb b).2 (by rw [e']; rfl)))⟩ ?_⟩;have hxl : xs = l.map (fun b => Value.string b) := rowE_strs hr;have hlen : (l.take lo ++ List.replicate (l.length - lo) (⟨#[]⟩ : ByteArray)).length = l.length := by simp; omega
   refine ⟨(l.take lo ++ List.replicate (l.length - lo) (⟨#[]⟩ : ByteArray)).map (fun b => Value.string b), ⟨by rw [List.length_map, hlen, hsz, Nat.mul_one], .inr ⟨g, c, (cur.toList.take lo ++ List.replicate (l.length - lo) (Value.string ⟨#[]⟩) ++ cur.toList.drop (lo + (l.length - lo))).toArray, by rw [hlen], hb, setRow_heap w g _ _ e _ hg, by rw [hlen]; exact hle, hmax, ?_, ?_⟩⟩, fun b => by rw [hlen]; exact hFb b, strs_rowE _⟩
   ·have hcl : cur.toList.length = cur.size := by simp
    simp [hsz]; omega
   ·rw [hlen, hsz, Nat.mul_one];have hcl : cur.toList.length = cur.size := by simp
    have h1 := take_put (l := cur.toList) (vs := List.replicate (l.length - lo) (Value.string ⟨#[]⟩)) (a := lo) (N := l.length) (by rw [List.length_replicate]; omega) (by rw [hcl, hcs]; exact hle);rw [List.length_replicate] at h1;rw [List.toList_toArray, h1, hxs, hxl, List.map_append, List.map_replicate, List.map_take, show lo + (l.length - lo) = (l.map fun b => Value.string b).length by simp; omega, List.drop_length, List.append_nil]
 ·have hm : l.length - lo = 0 := by omega
  have hl : l.take lo ++ List.replicate (l.length - lo) (⟨#[]⟩ : ByteArray) = l := by rw [hm, List.take_of_length_le hge]; simp
  rw [hl];have hset : Ξ.set i (row (α := ByteArray) e A c l) = Ξ := by
   refine List.ext_getElem? fun j => ?_;rw [List.getElem?_set]
   split
   ·rename_i e1; subst e1; rw [hi.get]
   ·rfl
  rw [hset];rw [hm] at hx;refine ⟨.tuple #[], w, ?_, hsl, Fs, hh⟩;generalize (if c = lo then A else A.map (·.add (lo * 1))) = A2 at hx;cases A2 <;> simp [execOp, resolve, invoke, builtin, hsl.ev hx, Builtin.clear_, run_underlying ht, Result.andThen]
end
end Go.Sx
end
section
namespace Go.Proofs.YtbhnolfcdcpbkaaGreatDoor.X
set_option maxRecDepth 100000
open Go Go.RowKit Go.Proofs Go.Sx
open Tryz
attribute [local irreducible] slA isA box row TrL TrC TrN TrA Pu OpR
set_option maxHeartbeats 8000000
theorem c_logTree (pl p b : Nat) (T : List File) (s0 : Value) : Con Tryz.prog 88 [pT pl] [box pl 124 [s0, pT p], box p 139 [.map (some b)], tr b T] [] (Nat × Nat) (fun y => pT y.1) (fun y => [box y.1 139 [.map (some y.2)], tr y.2 T, box pl 124 [s0, pT p], box p 139 [.map (some b)], tr b T]) (fun _ => []) := by
 refine con func88 rfl ntmps88 rfl ?_;intro M0 F0 w0;refine k_ 8 ?_;refine ls (op (p_nilck rfl) rfl) ?_;refine k_ 2 ?_;refine lC [1, 1] call77 (c_tCopy p b T) ?_; rintro ⟨p7, b7⟩;refine k_ 5 ?_;exact rR [0, 0, 2, 0, 0] (p7, b7)
theorem c_logAll (l : List Patch) (A : Option Addr) (c : Nat) (hl : l.length ≤ 2000000) (hf : ∀ q ∈ l, q.fit) (pl p : Nat) : Con Tryz.prog 23 [pT pl] [box pl 124 [.slice A l.length c, pT p], row 63 A c l] [] (Option Addr × Nat) (fun y => .slice y.1 l.length y.2) (fun y => [row 63 y.1 y.2 l, box pl 124 [.slice A l.length c, pT p], row 63 A c l]) (fun _ => []) := by
 refine con func23 rfl ntmps23 rfl ?_;intro M0 F0 w0;refine k_ 6 ?_;refine cmono (fun a w h => nilRow (α := Patch) 63 h) ?_;refine k_ 8 ?_;refine ls (op (p_nilck rfl) rfl) ?_;refine k_ 7 ?_;refine cl (ι := {q : Nat × (Option Addr × Nat) // q.1 ≤ l.length}) (fun i => St M0 F0 w0 22 [(3, .slice i.1.2.1 (l.take i.1.1).length i.1.2.2), (9, .slice A l.length c), (10, .int .i64 (l.length : Int)), (11, .int .i64 ((i.1.1 : Nat) : Int))] [row 63 (i.1.2.1) (i.1.2.2) (l.take i.1.1), box pl 124 [.slice A l.length c, pT p], row 63 A c l] []) (fun i => l.length - i.1.1) ⟨(0, (none, 0)), Nat.zero_le _⟩ (wk0 Φ Ω) ?_;rintro ⟨⟨k, ⟨A3, c3⟩⟩, hk⟩;refine cmono (S' := St M0 F0 w0 22 [(3, .slice A3 (l.take k).length c3), (9, .slice A l.length c), (10, .int .i64 (l.length : Int)), (11, .int .i64 ((k : Nat) : Int))] [row 63 (A3) (c3) (l.take k), box pl 124 [.slice A l.length c, pT p], row 63 A c l] []) Ħ ?_;refine k_ 6 ?_;refine cc rfl ?_ ?_
 ·intro h12;dsimp only at hk;(try simp only [nrmZ] at h12);have hk1 : k < l.length := (by omega);refine k_ 5 ?_;refine rowC (α := Patch) (A := A) (l := l) Θ (List.ne_nil_of_length_pos (by omega)) ?_;rintro g0 rfl;refine cr ?_;refine ls (op (p_ia k rfl hk1 rfl underlying38 sizeOf63 rfl rfl) rfl) ?_;refine ls (o_ldrow isAgg63 sizeOf63 rfl Θ (List.getElem?_eq_getElem hk1) rfl) ?_;refine le ?_; intro zyp;refine ls (o_alloc zeroValue63 rfl rfl) ?_;refine le ?_; intro b5;refine k_ 5 ?_;refine ls (o_ldw isAgg63 sizeOf63 rfl Θ (by rfl) rfl) ?_;refine lC [] call66 (c_nClone l[k] zyp (hf _ (List.getElem_mem hk1))) ?_; intro y17;refine ls (o_bsl [l[k]] underlying38 sizeOf63 zeroValue63 rfl (Enum.t Enum.d) (RV.t y17 rfl Ω RV.d) rfl (by decide) (by decide) rfl) ?_;refine le ?_; intro b18;refine lmono (fun a w h => Go.Sx.freeze (i := 0) rfl h) ?_;refine ls (o_appX (i := 1) underlying38 inf63 rfl (by decide) (by decide) rfl rfl (by simp only [List.length_take, List.length_cons, List.length_nil]; omega) rfl Ω rfl) ?_;refine le ?_; rintro ⟨A19, c19⟩;rw [← List.take_succ_eq_append_getElem hk1];refine k_ 8 ?_;refine nnext ⟨(k + 1, (A19, c19)), hk1⟩ (by dsimp only; omega) (wK [0, 1, 1])
 ·intro h12;dsimp only at hk;(try simp only [nrmZ] at h12);obtain rfl : k = l.length := (by omega);rw [List.take_length];refine k_ 13 ?_;exact rR [0, 0, 0] (A3, c3)
theorem c_logCopy (l : List Patch) (A : Option Addr) (c : Nat) (hl : l.length ≤ 2000000) (hf : ∀ q ∈ l, q.fit) (pl p b : Nat) (T : List File) : Con Tryz.prog 65 [pT pl] [box pl 124 [.slice A l.length c, pT p], row 63 A c l, box p 139 [.map (some b)], tr b T] [] ((Option Addr × Nat) × (Nat × Nat × Nat)) (fun y => pT y.2.1) (fun y => [box y.2.1 124 [.slice y.1.1 l.length y.1.2, pT y.2.2.1], row 63 y.1.1 y.1.2 l, box y.2.2.1 139 [.map (some y.2.2.2)], tr y.2.2.2 T, box pl 124 [.slice A l.length c, pT p], row 63 A c l, box p 139 [.map (some b)], tr b T]) (fun _ => []) := by
 refine con func65 rfl ntmps65 rfl ?_;intro M0 F0 w0;refine k_ 8 ?_;refine lC [0, 0] call23 (c_logAll l A c hl hf pl p) ?_; rintro ⟨A4, c4⟩;refine k_ 1 ?_;refine lC [1, 2, 2] call88 (c_logTree pl p b T (.slice A l.length c)) ?_; rintro ⟨p6, b6⟩;refine k_ 1 ?_;refine ls (o_box rfl rfl rfl) ?_;refine le ?_; intro b8;refine k_ 5 ?_;exact rR [0, 5, 0, 0, 0, 2, 0, 0] ((A4, c4), (b8, p6, b6))
theorem c_IndexFuncX (l : List Int) (A : Option Addr) (c : Nat) (hl : l.length ≤ 2000000) (f : Int → Bool) (g : FuncId) (cap : List Value) (x : Xsn) (hcf : ∀ args w, (callFunc g args).run Tryz.prog w = .ok (.enter g args) w) (hg : ∀ v, Con Tryz.prog g (.int .i64 v :: cap) [x] [] Unit (fun _ => .bool (f v)) (fun _ => [x]) (fun _ => [])) : Con Tryz.prog 161 [.slice A l.length c, .func (.func g) #[] cap.toArray] [x] [slA A l] {r : Int // (r = -1 ∧ l.any f = false) ∨ ∃ k : Nat, r = (k : Int) ∧ ∃ h : k < l.length, (l.take k).any f = false ∧ f l[k] = true} (fun r => .int .i64 r.1) (fun _ => [x]) (fun _ => []) := by
 refine con func161 rfl ntmps161 rfl ?_;intro M0 F0 w0;refine k_ 14 ?_;refine cl (ι := {k : Nat // k ≤ l.length ∧ (l.take k).any f = false}) (fun i => St M0 F0 w0 19 [(0, .slice A l.length c), (1, .func (.func g) #[] cap.toArray), (7, .int .i64 (l.length : Int)), (8, .int .i64 (i.1 : Int))] [x] [slA A l]) (fun i => l.length - i.1) ⟨0, by simp⟩ (wk0 Φ Ω) ?_;rintro ⟨k, hk, hkk⟩;refine cmono (S' := St M0 F0 w0 19 [(0, .slice A l.length c), (1, .func (.func g) #[] cap.toArray), (7, .int .i64 (l.length : Int)), (8, .int .i64 (k : Int))] [x] [slA A l]) Ħ ?_;refine k_ 6 ?_;refine cc rfl ?_ ?_
 ·intro h9;(try simp only [nrmZ] at h9);have hk1 : k < l.length := (by omega);refine k_ 11 ?_;refine elC Θ k (List.getElem?_eq_getElem (l := l) hk1) ?_; rintro zbp zop zyp hAp;refine k_ 4 ?_;refine ls (op (p_ia k hAp hk1 rfl underlying61 sizeOf3 rfl rfl) rfl) ?_;refine ls (o_ldi isAgg3 rfl Θ 0 rfl Δ rfl) ?_;refine ls (o_callv (is := [0]) rfl hcf (hg l[k]) rfl rfl rfl Ω rfl) ?_;refine le ?_; intro x16;refine k_ 2 ?_;refine cc rfl ?_ ?_
  ·intro h16;(try simp only [nrmZ] at h16);refine k_ 8 ?_;exact rR [0] ⟨(k : Int), .inr ⟨k, rfl, hk1, hkk, h16⟩⟩
  ·intro h16;(try simp only [nrmZ] at h16);refine k_ 7 ?_;refine nnext ⟨k + 1, hk1, by rw [List.take_succ_eq_append_getElem hk1, List.any_append, hkk]; simp [h16]⟩ (by dsimp only; omega) (wK [0])
 ·intro h9;(try simp only [nrmZ] at h9);refine k_ 12 ?_;exact rR [0] ⟨-1, .inl ⟨rfl, by rw [List.take_of_length_le (by omega)] at hkk; exact hkk⟩⟩
theorem c_ContainsFuncX (l : List Int) (A : Option Addr) (c : Nat) (hl : l.length ≤ 2000000) (f : Int → Bool) (g : FuncId) (cap : List Value) (x : Xsn) (hcf : ∀ args w, (callFunc g args).run Tryz.prog w = .ok (.enter g args) w) (hg : ∀ v, Con Tryz.prog g (.int .i64 v :: cap) [x] [] Unit (fun _ => .bool (f v)) (fun _ => [x]) (fun _ => [])) : Con Tryz.prog 106 [.slice A l.length c, .func (.func g) #[] cap.toArray] [x] [slA A l] Unit (fun _ => .bool (l.any f)) (fun _ => [x]) (fun _ => []) := by
 refine con func106 rfl ntmps106 rfl ?_;intro M0 F0 w0;refine k_ 9 ?_;refine lC [0] call161 (c_IndexFuncX l A c hl f g cap x hcf hg) ?_; rintro ⟨r, hr⟩;refine k_ 1 ?_;refine fixL (congrArg Value.bool (any_of hr)) ?_;refine k_ 5 ?_;exact rR [0] ()
theorem c_logAdd1 (l : List Patch) (A : Option Addr) (c : Nat) (hl : l.length ≤ 2000000) (pl p b : Nat) (v : Int) : Con Tryz.prog 104 [.int .i64 v, pT b] [box b 49 [pT pl], box pl 124 [.slice A l.length c, pT p], row 63 A c l] [] Unit (fun _ => .bool (decide (atP l v < 0))) (fun _ => [box b 49 [pT pl], box pl 124 [.slice A l.length c, pT p], row 63 A c l]) (fun _ => []) := by
 refine con func104 rfl ntmps104 rfl ?_;intro M0 F0 w0;refine k_ 9 ?_;refine lC [1, 1] call68 (c_logAtW l A c hl pl p v) ?_; intro x6;refine k_ 6 ?_;exact rR [2, 0, 0] ()
theorem c_logAdd (l : List Patch) (A : Option Addr) (c : Nat) (hl : l.length ≤ 2000000) (pl p b : Nat) (T : List File) (q : Patch) (y : Rp.Lay Patch) (hq : q.fit) (mm nn : Nat) (hi : AppInv mm nn T) (hm : mm + 2 * lns q.l ≤ 1800000) (hn : nn + 2 * q.l.length ≤ 1800000) : Con Tryz.prog 55 [pT pl, sv q y] [box pl 124 [.slice A l.length c, pT p], row 63 A c l, box p 139 [.map (some b)], tr b T] (Rp.asn q y) {x : ((List Patch × List File) × Int) × (Option Addr × Nat) // x.1 = addP l T q} (fun x => .int .i64 x.1.1.2) (fun x => [box pl 124 [.slice x.1.2.1 x.1.1.1.1.length x.1.2.2, pT p], row 63 x.1.2.1 x.1.2.2 x.1.1.1.1, box p 139 [.map (some b)], tr b x.1.1.1.2]) (fun _ => []) := by
 refine con func55 rfl ntmps55 rfl ?_;intro M0 F0 w0;refine k_ 2 ?_;refine ls (o_box rfl rfl rfl) ?_;refine le ?_; intro b2;refine ls (o_box rfl rfl rfl) ?_;refine le ?_; intro b3;refine k_ 5 ?_;refine ls (op (p_mkf rfl) rfl) ?_;refine k_ 7 ?_;refine ls (o_ldw isAgg63 sizeOf63 rfl Θ (by rfl) rfl) ?_;refine lC [] call105 (c_nRight q y hq) ?_; intro x10;refine k_ 4 ?_;refine cc rfl ?_ ?_
 ·intro h8;have hr : q.right = false := (by have h := h8; simpa using h);refine k_ 7 ?_;exact rR [2, 2, 2, 2] ⟨(((l, T), 70), (A, c)), (addP_form hr).symm⟩
 ·intro h8;have hr : q.right = true := (by have h := h8; simpa using h);refine k_ 5 ?_;refine lC [2, 2] call68 (c_logAtW l A c hl pl p q.id) ?_; intro x16;refine k_ 4 ?_;refine cc rfl ?_ ?_
  ·intro h12;have ha : 0 ≤ atP l q.id := of_decide_eq_true h12;refine k_ 7 ?_;exact rR [0, 0, 2, 2] ⟨(((l, T), 80), (A, c)), (addP_twice hr ha).symm⟩
  ·intro h12;have ha : ¬ 0 ≤ atP l q.id := of_decide_eq_false h12;refine cs ?_;refine cmono (fun a w h => stBun (is := [3, 0, 0]) (Γ1 := []) rfl Sub.d h) ?_;refine k_ 4 ?_;refine lC [0] call106 (c_ContainsFuncX q.deps y.1.1 y.1.2 hq.dl (fun d => decide (atP l d < 0)) 104 [pT b2] (bun [box b2 49 [pT pl], box pl 124 [.slice A l.length c, pT p], row 63 A c l] []) call104 (fun d => con_bun (Ξ0 := []) (Ξo := fun _ => []) (c_logAdd1 l A c hl pl p b2 d))) ?_; intro x22;refine lmono (fun a w h => stUnbun (i := 0) rfl h) ?_;refine k_ 3 ?_;refine cc rfl ?_ ?_
   ·intro h18;have hd : (q.deps.any fun d => decide (atP l d < 0)) = true := h18;refine k_ 7 ?_;exact rR [1, 1, 2, 2] ⟨(((l, T), 82), (A, c)), (addP_deps hr ha hd).symm⟩
   ·intro h18;have hd : (q.deps.any fun d => decide (atP l d < 0)) = false := h18;refine k_ 5 ?_;refine cpure (St.cap (m := q.l.length) (c := y.2.2) Θ) ?_;intro hcapq;refine cd [6] [(0, b2, 0, _), (3, pl, 1, _), (5, b3, 3, _)] TryzX.mixed (tB 1 (tB 1 (tB 1 TOk.d))) ?_;refine u_ 0 1 ?_;refine tk 1 rfl Ψ Υ gnone (TTany _) (p_nilck rfl) rfl ?_;refine u_ 2 4 ?_;refine df 6 Ψ ?_;refine doR rfl (o_call (is := [4, 4]) call43 (c_seqApply p b T mm nn hi q.l y.2.1 y.2.2 hcapq (by omega) hq.lf (by omega) (by omega)) rfl rfl Ω rfl) tX ?_;refine ea ?_; rintro ⟨⟨U, e29⟩, hq29⟩;refine u_ 7 1 ?_;refine dn Ψ ?_;refine k_ 7 ?_;refine cc rfl ?_ ?_
    ·intro h31;have he : ¬ e29 = 0 := (by have h := h31; simpa using h);refine k_ 8 ?_;exact rR [3, 3, 0, 0] ⟨(((l, U), e29), (A, c)), (addP_no hr ha hd hq29 he).symm⟩
    ·intro h31;obtain rfl : e29 = 0 := (by have h := h31; simpa using h);refine k_ 3 ?_;refine cd [6, 7, 8, 11] [(0, b2, 0, _), (1, b2, 0, _), (4, pl, 0, _), (5, b3, 0, _)] TryzX.mixed (tB 1 (tB 1 (tB 1 (tB 4 TOk.d)))) ?_;refine u_ 0 2 ?_;refine tk 2 rfl Ψ Υ gnone (TTany _) (p_nilck rfl) rfl ?_;refine u_ 3 3 ?_;refine df 6 Ψ ?_;refine doR rfl (o_call (is := []) call66 (c_nClone q y hq) rfl rfl Ω rfl) (TOk.t (isBoxE fun _ => isBoxS Θ (k := 1) Δ) (TOk.t (isBoxE fun _ => isBoxS Θ (k := 1) Δ) (TOk.t (isBoxE fun _ => isBoxS Θ (k := 1) Δ) (TOk.x Ψ TOk.d)))) ?_;refine ea ?_; intro y39;refine df 7 Ψ ?_;refine doR rfl (o_bsl [q] underlying38 sizeOf63 zeroValue63 rfl (Enum.t Enum.d) (RV.t y39 rfl Ω RV.d) rfl (by decide) (by decide) rfl) (TOk.t (isBoxE fun _ => isBoxS Θ (k := 1) Δ) (TOk.t (isBoxE fun _ => isBoxS Θ (k := 1) Δ) (TOk.t (isBoxE fun _ => isBoxS Θ (k := 1) Δ) (TOk.x Ψ TOk.d)))) ?_;refine ea ?_; intro b40;refine amono (fun a w h => Go.Sx.freeze (i := 0) rfl h) ?_;refine df 8 Ψ ?_;refine doR rfl (o_appX (i := 4) underlying38 inf63 rfl (by decide) (by decide) rfl rfl (by simp only [List.length_cons, List.length_nil]; omega) rfl Ω rfl) (TOk.t (isBoxE fun _ => isBoxS Θ (k := 1) Δ) (TOk.x Ψ (TOk.x Ψ (TOk.x Ψ TOk.d)))) ?_;refine ea ?_; rintro ⟨A41, c41⟩;refine tk 9 rfl Ψ Υ gnone (TTany _) (p_nilck rfl) rfl ?_;refine u_ 10 1 ?_;refine df 11 Ψ ?_;refine doR rfl (o_st rfl sizeOf38 rfl rfl rfl rfl rfl Θ Θ Θ) tX ?_;refine dn Ψ ?_;refine k_ 8 ?_;exact rR [4, 0, 0, 0] ⟨(((l ++ [q], U), 0), (A41, c41)), (addP_yes hr ha hd hq29).symm⟩
end Go.Proofs.YtbhnolfcdcpbkaaGreatDoor.X
end
section
namespace Go.Sx
open Go Go.RowKit
end Go.Sx
end
section
namespace Go.Sx
open Go Go.RowKit
theorem box_free {b : Nat} {t : TypeId} {cs : List Value} : ∀ F M M' w, (box b t cs).p F M w → (box b t cs).p F M' w := fun F M M' w h => h
end Go.Sx
end
section
namespace Go.Proofs.YtbhnolfcdcpbkaaGreatDoor.X
set_option maxRecDepth 100000
open Go Go.RowKit Go.Proofs Go.Sx
open Tryz
attribute [local irreducible] slA isA box row TrL TrC TrN TrA Pu OpR
set_option maxHeartbeats 8000000
end Go.Proofs.YtbhnolfcdcpbkaaGreatDoor.X
end
section
namespace Go.Proofs.YtbhnolfcdcpbkaaGreatDoor.X
open Go Go.RowKit Go.Proofs Go.Sx
attribute [local irreducible] slA isA box row TrL TrC TrN TrA Pu OpR
set_option maxHeartbeats 8000000
end Go.Proofs.YtbhnolfcdcpbkaaGreatDoor.X
end
section
namespace Go.Proofs.YtbhnolfcdcpbkaaGreatDoor.X
open Go Go.RowKit Go.Proofs Go.Sx
/-! Patches in another order: neighbours are swapped. -/
inductive SwP : List Patch → List Patch → Prop
 | refl {a} : SwP a a
 | step {a x p q s t y} : SwP a (x ++ p :: q :: y) → (s, t, true) = pswap p q → SwP a (x ++ s :: t :: y)
theorem SwP.trans {a b c : List Patch} (h : SwP a b) (k : SwP b c) : SwP a c := by
 induction k with
 | refl => exact h
 | step _ e ih => exact .step ih e
theorem SwP.ctx {a b : List Patch} (h : SwP a b) (u v : List Patch) : SwP (u ++ a ++ v) (u ++ b ++ v) := by
 induction h with
 | refl => exact .refl
 | @step x p q s t y _ e ih =>
  have e1 : u ++ (x ++ p :: q :: y) ++ v = (u ++ x) ++ p :: q :: (y ++ v) := by simp only [List.append_assoc, List.cons_append]
  have e2 : u ++ (x ++ s :: t :: y) ++ v = (u ++ x) ++ s :: t :: (y ++ v) := by simp only [List.append_assoc, List.cons_append]
  rw [e1] at ih;rw [e2];exact .step ih e
theorem SwP.one {p q s t : Patch} (e : (s, t, true) = pswap p q) : SwP [p, q] [s, t] := SwP.step (x := []) (y := []) .refl e
theorem SwP.swr {a b : List Patch} (h : SwP a b) : SwR (pl a) (pl b) := by
 induction h with
 | refl => exact .refl
 | @step x p q s t y _ e ih =>
  refine ih.trans ?_;have := (pswap_swr e).ctx (pl x) (pl y);rw [pl_app, pl_app, pl_cons, pl_cons, pl_cons, pl_cons]
  simpa only [List.append_assoc] using this
theorem pswap_ids' {p q s t : Patch} (e : (s, t, true) = pswap p q) : s.id = q.id ∧ t.id = p.id ∧ s.deps = q.deps ∧ t.deps = p.deps ∧ s.note = q.note ∧ t.note = p.note ∧ s.l.length = q.l.length ∧ t.l.length = p.l.length := by
 obtain ⟨f, g, _, h2, rfl, rfl⟩ := pswap_true e;have h3 := swT_len h2;exact ⟨rfl, rfl, rfl, rfl, rfl, rfl, h3.1, h3.2⟩
theorem SwP.ids {a b : List Patch} (h : SwP a b) : (idsP b).Perm (idsP a) := by
 induction h with
 | refl => exact .refl _
 | @step x p q s t y _ e ih =>
  obtain ⟨h1, h2, _⟩ := pswap_ids' e;refine List.Perm.trans ?_ ih;unfold idsP;simp only [List.map_append, List.map_cons, h1, h2];exact List.Perm.append_left _ (List.Perm.swap _ _ _)
theorem SwP.fit {a b : List Patch} (h : SwP a b) (hf : ∀ p ∈ a, p.fit) : ∀ p ∈ b, p.fit := by
 induction h with
 | refl => exact hf
 | @step x p q s t y _ e ih =>
  have hpq := pswap_fit (ih p (by simp)) (ih q (by simp));rw [← e] at hpq;intro r hr;simp only [List.mem_append, List.mem_cons] at hr;rcases hr with hr | rfl | rfl | hr
  ·exact ih r (by simp [hr])
  ·exact hpq.1
  ·exact hpq.2
  ·exact ih r (by simp [hr])
theorem SwP.ok {a b : List Patch} (h : SwP a b) {T : List File} (k : LogOk a T) : LogOk b T :=
 ⟨h.swr.runs Sor.nil k.runs, h.ids.nodup_iff.2 k.nodup, h.fit k.fit⟩
/-! what stands -/
theorem pswap_right {p q s t : Patch} (e : (s, t, true) = pswap p q) : s.right = true ∧ t.right = true ∧ p.right = true ∧ q.right = true ∧ p.id ≠ q.id ∧ p.id ∉ q.deps ∧ q.id ∉ p.deps := by
 obtain ⟨f, g, h1, h2, rfl, rfl⟩ := pswap_true e;simp only [pmay, Bool.and_eq_true, Bool.not_eq_true', decide_eq_false_iff_not] at h1;obtain ⟨⟨⟨⟨hp, hq⟩, hn⟩, h3⟩, h4⟩ := h1;have hg := grid_right (swapL_grid.1 (swT_true.1 h2)) (right_parts hp).2 (right_parts hq).2;have hl := swT_len h2;refine ⟨right_with hq hl.1 hg.1, right_with hp hl.2 hg.2, hp, hq, hn, fun h => ?_, fun h => ?_⟩
 ·have := List.any_eq_false.1 h3 _ h; simp at this
 ·have := List.any_eq_false.1 h4 _ h; simp at this
structure LogD (l : List Patch) : Prop where
 right : ∀ p ∈ l, p.right = true
 deps : ∀ (A : List Patch) (p : Patch) (B : List Patch), l = A ++ p :: B → ∀ d ∈ p.deps, d ∈ idsP A
theorem LogD.nil : LogD [] := ⟨(fun p h => by cases h), (fun A p B h => by simp at h)⟩
theorem idsP_app (a b : List Patch) : idsP (a ++ b) = idsP a ++ idsP b := by unfold idsP; rw [List.map_append]
theorem idsP_cons (p : Patch) (b : List Patch) : idsP (p :: b) = p.id :: idsP b := rfl
theorem split_cases {α : Type} {x y A B : List α} {s t p : α} (h : x ++ s :: t :: y = A ++ p :: B) :
  (∃ C, x = A ++ p :: C) ∨ (A = x ∧ p = s) ∨ (A = x ++ [s] ∧ p = t) ∨ ∃ C, A = x ++ s :: t :: C ∧ y = C ++ p :: B := by
 rcases List.append_eq_append_iff.1 h with ⟨C, h1, h2⟩ | ⟨C, h1, h2⟩
 ·cases C with
  | nil =>
   rw [List.nil_append] at h2
   injection h2 with h3 h4
   rw [List.append_nil] at h1;exact .inr (.inl ⟨h1, h3.symm⟩)
  | cons c C =>
   rw [List.cons_append] at h2
   injection h2 with h3 h4
   subst h3;cases C with
   | nil =>
    rw [List.nil_append] at h4
    injection h4 with h5 h6
    exact .inr (.inr (.inl ⟨h1, h5.symm⟩))
   | cons c C =>
    rw [List.cons_append] at h4
    injection h4 with h5 h6
    subst h5;exact .inr (.inr (.inr ⟨C, h1, h6⟩))
 ·cases C with
  | nil =>
   rw [List.nil_append] at h2
   injection h2 with h3 h4
   rw [List.append_nil] at h1;exact .inr (.inl ⟨h1.symm, h3⟩)
  | cons c C =>
   rw [List.cons_append] at h2
   injection h2 with h3 h4
   subst h3;exact .inl ⟨C, h1⟩
theorem LogD.step {x y : List Patch} {p q s t : Patch} (h : LogD (x ++ p :: q :: y)) (e : (s, t, true) = pswap p q) : LogD (x ++ s :: t :: y) := by
 obtain ⟨h1, h2, _, _, h5, h6, h7⟩ := pswap_right e;obtain ⟨i1, i2, d1, d2, _⟩ := pswap_ids' e;refine ⟨fun r hr => ?_, fun A r B hr d hd => ?_⟩
 ·simp only [List.mem_append, List.mem_cons] at hr;rcases hr with hr | rfl | rfl | hr
  ·exact h.right r (by simp [hr])
  ·exact h1
  ·exact h2
  ·exact h.right r (by simp [hr])
 ·rcases split_cases hr with ⟨C, h8⟩ | ⟨rfl, rfl⟩ | ⟨rfl, rfl⟩ | ⟨C, rfl, h8⟩
  ·exact h.deps A r (C ++ p :: q :: y) (by rw [h8]; simp) d hd
  ·rw [d1] at hd;have := h.deps (A ++ [p]) q y (by simp) d hd;rw [idsP_app] at this;rcases List.mem_append.1 this with h9 | h9
   ·exact h9
   ·rw [show idsP [p] = [p.id] from rfl, List.mem_singleton] at h9;exact absurd (h9 ▸ hd) h6
  ·rw [d2] at hd;rw [idsP_app];exact List.mem_append_left _ (h.deps x p (q :: y) rfl d hd)
  ·have := h.deps (x ++ p :: q :: C) r B (by rw [h8]; simp) d hd;simp only [idsP_app, idsP_cons, List.mem_append, List.mem_cons] at this ⊢;rw [i1, i2];rcases this with h | h | h | h
   ·exact .inl h
   ·exact .inr (.inr (.inl h))
   ·exact .inr (.inl h)
   ·exact .inr (.inr (.inr h))
theorem SwP.logD {a b : List Patch} (h : SwP a b) (k : LogD a) : LogD b := by
 induction h with
 | refl => exact k
 | step _ e ih => exact ih.step e
theorem LogD.add {l : List Patch} {q : Patch} (h : LogD l) (hr : q.right = true) (hd : ∀ d ∈ q.deps, d ∈ idsP l) : LogD (l ++ [q]) := by
 refine ⟨fun p hp => ?_, fun A p B e d hd' => ?_⟩
 ·rcases List.mem_append.1 hp with hp | hp
  ·exact h.right p hp
  ·rw [List.mem_singleton.1 hp]; exact hr
 ·rcases List.append_eq_append_iff.1 e with ⟨C, h1, h2⟩ | ⟨C, h1, h2⟩
  ·cases C with
   | nil =>
    rw [List.nil_append] at h2; injection h2 with h3 h4;rw [List.append_nil] at h1;subst h1 h3;exact hd d hd'
   | cons c C =>
    rw [List.cons_append] at h2; injection h2 with h3 h4;simp at h4
  ·cases C with
   | nil =>
    rw [List.nil_append] at h2; injection h2 with h3 h4;rw [List.append_nil] at h1;subst h1 h3;exact hd d hd'
   | cons c C =>
    rw [List.cons_append] at h2; injection h2 with h3 h4;subst h3;exact h.deps A p C h1 d hd'
theorem LogD.take {l : List Patch} (h : LogD l) (m : List Patch) {n : List Patch} (e : l = m ++ n) : LogD m :=
 ⟨fun p hp => h.right p (by rw [e]; simp [hp]), fun A p B h1 => h.deps A p (B ++ n) (by rw [e, h1]; simp)⟩
theorem lastF_swp : ∀ {r s : List Patch} {p b : Patch}, lastF p r = some (s, b) → SwP (p :: r) (s ++ [b])
 | [], s, p, b, h => by
  simp only [lastF, Option.some.injEq, Prod.mk.injEq] at h;obtain ⟨rfl, rfl⟩ := h;exact .refl
 | x :: r, s, p, b, h => by
  simp only [lastF] at h
  by_cases hc : (pswap p x).2.2 = true
  ·rw [if_pos hc] at h;cases hl : lastF (pswap p x).2.1 r with
   | none => rw [hl] at h; cases h
   | some y =>
    obtain ⟨s', b'⟩ := y;rw [hl] at h;simp only [Option.map_some, Option.some.injEq, Prod.mk.injEq] at h;obtain ⟨rfl, rfl⟩ := h;have h1 := (SwP.one (pswap_eta p x hc)).ctx [] r;have h2 := (lastF_swp hl).ctx [(pswap p x).1] [];simp only [List.append_nil, List.nil_append, List.cons_append] at h1 h2 ⊢;exact h1.trans h2
  ·rw [if_neg hc] at h; cases h
theorem at_mem {l : List Patch} {v : Int} : 0 ≤ atP l v ↔ v ∈ idsP l := by
 rcases atP_cases l v with ⟨h1, h2⟩ | ⟨k, hk, h1, h2, _⟩
 ·exact ⟨fun h => by omega, fun h => absurd h h2⟩
 ·exact ⟨fun _ => List.mem_map.2 ⟨l[k], List.getElem_mem hk, h2⟩, fun _ => by omega⟩
theorem good_nil : Go.Sx.Good [] := fun x hx => by cases hx
structure LogI (m n : Nat) (l : List Patch) (T : List File) : Prop where
 ok : LogOk l T
 d : LogD l
 z : lns (pl l) ≤ m
 y : (pl l).length ≤ n
theorem LogI.nil : LogI 0 0 [] [] := ⟨LogOk.nil, LogD.nil, Nat.le_refl _, Nat.le_refl _⟩
theorem LogI.mono {m n m' n' : Nat} {l : List Patch} {T : List File} (h : LogI m n l T) (hm : m ≤ m') (hn : n ≤ n') : LogI m' n' l T := ⟨h.ok, h.d, Nat.le_trans h.z hm, Nat.le_trans h.y hn⟩
theorem LogI.swp {m n : Nat} {l l' : List Patch} {T : List File} (h : LogI m n l T) (hs : SwP l l') : LogI m n l' T :=
 ⟨hs.ok h.ok, hs.logD h.d, by rw [hs.swr.lns.1]; exact h.z, by rw [hs.swr.lns.2]; exact h.y⟩
theorem LogI.sub {m n : Nat} {a b : List Patch} {T : List File} (h : LogI m n (a ++ b) T) : ∃ U, LogI m n a U ∧ Runs U (pl b) T := by
 obtain ⟨ho, hd, hz, hy⟩ := h;have hr := ho.runs;rw [pl_app] at hr hz hy;obtain ⟨U, h1, h2⟩ := runs_app.1 hr;rw [lns_app] at hz;rw [List.length_append] at hy;refine ⟨U, ⟨⟨h1, ?_, fun p hp => ho.fit p (by simp [hp])⟩, hd.take a rfl, by omega, by omega⟩, h2⟩;have hn := ho.nodup;rw [idsP_app] at hn;exact (List.nodup_append.1 hn).1
theorem LogI.good {m n : Nat} {l : List Patch} {T : List File} (h : LogI m n l T) : Sor T ∧ Go.Sx.Good T := ⟨runs_sor h.ok.runs Sor.nil, runs_good h.ok.runs good_nil⟩
/-! Calls of a log, as the document has them. -/
theorem LogI.app {m n : Nat} {l : List Patch} {T : List File} (h : LogI m n l T) : AppInv m n T := by
 have h0 : AppInv 0 0 [] := ⟨Sor.nil, (fun x hx => by cases hx), (fun x hx => by cases hx), Nat.le_refl _⟩;have h1 := runs_inv h.ok.runs h0;have h2 := news_lns (pl l);exact ⟨h1.so, h1.good, h1.lmax.mono (by have := h.z; omega), Nat.le_trans h1.len (by have := h.y; omega)⟩
theorem LogI.tree {m n : Nat} {l : List Patch} {T : List File} (h : LogI m n l T) : treeP l = T := h.ok.tree
theorem LogI.mem {m n : Nat} {l : List Patch} {T : List File} (h : LogI m n l T) {q : Patch} (hq : q ∈ l) : lns q.l ≤ m ∧ q.l.length ≤ n := by
 have := mem_pl hq;have := h.z; have := h.y;omega
def addD (l : List Patch) (q : Patch) : List Patch × Int :=
 if q.right = false then (l, 70) else if 0 ≤ atP l q.id then (l, 80) else if (q.deps.any fun d => decide (atP l d < 0)) = true then (l, 82) else
 if (rowT (treeP l) q.l).2 = 0 then (l ++ [q], 0) else (l, (rowT (treeP l) q.l).2)
def dropD (l : List Patch) : (List Patch × List Patch) × Int := if h : 0 < l.length then ((l.take (l.length - 1), [l[l.length - 1]'(by omega)]), 0) else ((l, []), 0)
/-! the program's calls are these -/
theorem LogI.addP {m n : Nat} {l : List Patch} {T : List File} {q : Patch} (h : LogI m n l T) (hq : q.fit) :
  (X.addP l T q).1.1 = (addD l q).1 ∧ (X.addP l T q).2 = (addD l q).2 ∧ LogI (m + lns q.l) (n + q.l.length) (addD l q).1 (X.addP l T q).1.2 := by
 have hm : LogI (m + lns q.l) (n + q.l.length) l T := h.mono (by omega) (by omega);unfold X.addP addD;rw [h.tree]
 by_cases h1 : q.right = false
 ·rw [if_pos h1, if_pos h1]; exact ⟨rfl, rfl, hm⟩
 rw [if_neg h1, if_neg h1]
 by_cases h2 : 0 ≤ atP l q.id
 ·rw [if_pos h2, if_pos h2]; exact ⟨rfl, rfl, hm⟩
 rw [if_neg h2, if_neg h2]
 by_cases h3 : (q.deps.any fun d => decide (atP l d < 0)) = true
 ·rw [if_pos h3, if_pos h3]; exact ⟨rfl, rfl, hm⟩
 rw [if_neg h3, if_neg h3]
 by_cases h4 : (rowT T q.l).2 = 0
 ·rw [if_pos h4, if_pos h4];refine ⟨rfl, rfl, ⟨h.ok.add hq ?_ (rowT_runs (by rw [← h4])), h.d.add (by simpa using h1) fun d hd => ?_, ?_, ?_⟩⟩
  ·rcases atP_cases l q.id with ⟨h5, _⟩ | ⟨k, _, h5, _⟩
   ·exact h5
   ·omega
  ·have h5 := List.any_eq_false.1 (by simpa using h3 : (q.deps.any fun d => decide (atP l d < 0)) = false) d hd;exact at_mem.1 (by simpa using h5)
  ·rw [pl_app, pl_one, lns_app]; have := h.z; omega
  ·rw [pl_app, pl_one, List.length_append]; have := h.y; omega
 ·rw [if_neg h4, if_neg h4];have h5 : (rowT T q.l).1 = T := rowT_no (e := (rowT T q.l).2) (l := q.l) rfl h4;exact ⟨rfl, rfl, by dsimp only; rw [h5]; exact hm⟩
theorem lastP_swp (l : List Patch) (v : Int) : SwP l (lastP l v).1 := by
 unfold lastP
 split
 ·rename_i h
  cases e : lastF (l[(atP l v).toNat]'h.2) (l.drop ((atP l v).toNat + 1)) with
  | none => exact .refl
  | some x =>
   have h1 := (lastF_swp (s := x.1) (b := x.2) e).ctx (l.take (atP l v).toNat) [];rw [← List.drop_eq_getElem_cons h.2, List.take_append_drop] at h1
   simpa only [List.append_nil, List.append_assoc] using h1
 ·exact .refl
theorem LogI.last {m n : Nat} {l : List Patch} {T : List File} (h : LogI m n l T) (v : Int) : LogI m n (lastP l v).1 T := h.swp (lastP_swp l v)
theorem lastP_id {l l' : List Patch} {v : Int} (h : lastP l v = (l', 0)) : ∃ s b, l' = s ++ [b] ∧ b.id = v := by
 unfold lastP at h
 split at h
 ·rename_i hk
  cases e : lastF (l[(atP l v).toNat]'hk.2) (l.drop ((atP l v).toNat + 1)) with
  | none => rw [e] at h; simp at h
  | some x =>
   rw [e] at h;simp only [Prod.mk.injEq, and_true] at h;refine ⟨_, _, h.symm, ?_⟩;rw [(lastF_ids (s := x.1) (b := x.2) e).2];rcases atP_cases l v with ⟨h1, _⟩ | ⟨k, hk', h1, h2, _⟩
   ·omega
   ·have : (atP l v).toNat = k := by omega
    simp only [this]; exact h2
 ·simp at h
theorem snoc_of {l : List Patch} (h : 0 < l.length) : l = l.take (l.length - 1) ++ [l[l.length - 1]'(by omega)] := by
 conv => lhs; rw [← List.take_append_drop (l.length - 1) l]
 rw [List.drop_eq_getElem_cons (by omega), List.drop_eq_nil_of_le (by omega)]
theorem LogI.drop {m n : Nat} {l : List Patch} {T : List File} (h : LogI m n l T) : (dropP l T).1.1 = (dropD l).1.1 ∧ LogI m n (dropD l).1.1 (dropP l T).1.2 ∧ (dropP l T).2.2 = decide (0 < l.length) ∧ (dropD l).2 = 0 ∧ (0 < l.length → (dropD l).1.2 = [(dropP l T).2.1] ∧ (dropP l T).2.1.fit) := by
 unfold dropP dropD
 by_cases h0 : 0 < l.length
 ·rw [dif_pos h0, dif_pos h0];have e := snoc_of h0;have h1 := h;rw [e] at h1;obtain ⟨U, h2, h3⟩ := h1.sub;rw [pl_one] at h3;rw [rowT_ok (runs_back h2.good.1 h2.good.2 h3)];exact ⟨rfl, h2, by simp [h0], rfl, fun _ => ⟨rfl, h.ok.fit _ (List.getElem_mem _)⟩⟩
 ·rw [dif_neg h0, dif_neg h0];exact ⟨rfl, h, by simp [h0], rfl, fun h' => absurd h' h0⟩
theorem pl_ge : ∀ {l : List Patch}, (∀ p ∈ l, p.right = true) → l.length ≤ (pl l).length
 | [], _ => Nat.le_refl _
 | p :: l, h => by
  have h1 := (right_parts (h p (by simp))).1.1;have h2 := pl_ge (l := l) (fun q hq => h q (by simp [hq]));rw [pl_cons, List.length_append, List.length_cons];omega
theorem LogI.len {m n : Nat} {l : List Patch} {T : List File} (h : LogI m n l T) : l.length ≤ n := Nat.le_trans (pl_ge h.d.right) h.y
theorem LogI.self {m n : Nat} {l : List Patch} {T : List File} (h : LogI m n l T) : LogI m n l (treeP l) := by rw [h.tree]; exact h
/-! what was taken, put back -/
theorem add_back {m n : Nat} {a g : List Patch} {p : Patch} {T : List File} (h : LogI m n (a ++ p :: g) T) : addD a p = (a ++ [p], 0) := by
 have h1 : LogI m n ((a ++ [p]) ++ g) T := by simpa using h
 obtain ⟨V, h2, _⟩ := h1.sub;obtain ⟨U, h3, h4⟩ := h2.sub;rw [pl_one] at h4;unfold addD;rw [if_neg (by rw [h2.d.right p (by simp)]; simp), if_neg, if_neg, h3.tree, if_pos (by rw [rowT_ok h4])]
 ·intro h5;obtain ⟨d, hd, h6⟩ := List.any_eq_true.1 h5;have := at_mem.2 (h2.d.deps a p [] rfl d hd);have h7 : atP a d < 0 := by simpa using h6
  omega
 ·intro h5;have h6 := at_mem.1 h5;have h7 := h2.ok.nodup;rw [idsP_app, List.nodup_append] at h7;exact h7.2.2 _ h6 _ (by simp [idsP]) rfl
end Go.Proofs.YtbhnolfcdcpbkaaGreatDoor.X
end
section
namespace Go.Proofs.YtbhnolfcdcpbkaaGreatDoor.X
open Go Go.RowKit Go.Proofs Go.Sx
attribute [local irreducible] slA isA box row TrL TrC TrN TrA Pu OpR
set_option maxHeartbeats 8000000
end Go.Proofs.YtbhnolfcdcpbkaaGreatDoor.X
end
section
namespace Go.Sx
open Go Go.RowKit
end Go.Sx
end
section
namespace Go.Proofs.YtbhnolfcdcpbkaaGreatDoor.X
set_option maxRecDepth 100000
open Go Go.RowKit Go.Proofs Go.Sx
open Tryz
attribute [local irreducible] slA isA box row TrL TrC TrN TrA Pu OpR
set_option maxHeartbeats 8000000
end Go.Proofs.YtbhnolfcdcpbkaaGreatDoor.X
end
section
namespace Go.Sx
open Go Go.RowKit
variable {ro : Option Nat} {P : Program} {M0 F0 : Nat → Prop} {w0 : World} {n : Nm} {σ : List (Nat × Value)} {Ξ : List Xsn} {Γ : List Asn} {d : Nat} {ty : TypeId} {pos : String} {af : Array Edge}
variable {ops : Array Oper} {Q : Exit → Act → World → Prop} {S S' : Act → World → Prop}
end Go.Sx
end
section
namespace Go.Proofs.YtbhnolfcdcpbkaaGreatDoor.X
set_option maxRecDepth 100000
open Go Go.RowKit Go.Proofs Go.Sx
open Tryz
attribute [local irreducible] slA isA box row TrL TrC TrN TrA Pu OpR
set_option maxHeartbeats 8000000
end Go.Proofs.YtbhnolfcdcpbkaaGreatDoor.X
end
section
namespace Go.Sx
open Go Go.RowKit
variable {P : Program} {M0 F0 : Nat → Prop} {w0 : World} {n : Nm} {σ : List (Nat × Value)} {Ξ : List Xsn} {Γ : List Asn}
theorem rowFact {α : Type} [Rp α] {e : TypeId} {A : Option Addr} {c : Nat} {l : List α} {i : Nat} (hi : At (row e A c l) i Ξ) : ∀ a w, St M0 F0 w0 n σ Ξ Γ a w → (A = none → c = 0) ∧ l.length ≤ c := by
 intro a w h;refine ⟨?_, rowLe hi h⟩;obtain ⟨_, Fs, hh⟩ := h;obtain ⟨F, _, xs, ho, _⟩ := hh.ex.at hi.get;rcases ho.2 with ⟨hnil, _⟩ | ⟨g, cap, cur, hv, _⟩
 ·obtain ⟨_, _, rfl⟩ : A = none ∧ l.length = 0 ∧ c = 0 := by simpa using hnil
  intro _; rfl
 ·obtain ⟨rfl, _⟩ : A = some ⟨g, 0, none⟩ ∧ c = cap := by simpa using hv
  intro h; cases h
end Go.Sx
end
section
namespace Go.Proofs.YtbhnolfcdcpbkaaGreatDoor.X
set_option maxRecDepth 100000
open Go Go.RowKit Go.Proofs Go.Sx
open Tryz
attribute [local irreducible] slA isA box row TrL TrC TrN TrA Pu OpR
set_option maxHeartbeats 8000000
theorem fold_app : ∀ (l : List Patch) {T : List File} {m n : Nat}, AppInv m n T → AppInv (m + lns (pl l)) (n + (pl l).length) (l.foldl (fun t p => (rowT t p.l).1) T)
 | [], T, m, n, h => h
 | p :: l, T, m, n, h => by
  have h1 := fold_app l (rowT_inv (U := (rowT T p.l).1) (e := (rowT T p.l).2) (l := p.l) h rfl);rw [pl_cons, lns_app, List.length_append];rw [Nat.add_assoc, Nat.add_assoc] at h1;exact h1
theorem treeP_app (l : List Patch) : AppInv (lns (pl l)) ((pl l).length) (treeP l) := by
 have := fold_app l (T := []) (m := 0) (n := 0) ⟨Sor.nil, (fun x hx => by cases hx), (fun x hx => by cases hx), Nat.le_refl _⟩;simp only [Nat.zero_add] at this;exact this
theorem c_r8At (l : List Patch) (A : Option Addr) (c : Nat) (hl : l.length ≤ 2000000) (v : Int) : Con Tryz.prog 112 [.slice A l.length c, .int .i64 v] [] [slA A l] Unit (fun _ => .int .i64 (atP l v)) (fun _ => []) (fun _ => []) := by
 refine con func112 rfl ntmps112 rfl ?_;intro M0 F0 w0;refine k_ 12 ?_;refine cl (ι := {k : Nat // k ≤ l.length ∧ ((l.take k).any fun q => decide (q.id = v)) = false}) (fun i => St M0 F0 w0 20 [(0, .slice A l.length c), (1, .int .i64 v), (5, .int .i64 ((i.1 : Nat) : Int))] [] [slA A l]) (fun i => l.length - i.1) ⟨0, Nat.zero_le _, by simp⟩ (wk0 Φ Ω) ?_;rintro ⟨k, hk, hkk⟩;refine cmono (S' := St M0 F0 w0 20 [(0, .slice A l.length c), (1, .int .i64 v), (5, .int .i64 ((k : Nat) : Int))] [] [slA A l]) Ħ ?_;refine k_ 9 ?_;refine cc rfl ?_ ?_
 ·intro h9;(try simp only [nrmZ] at h9);have hk1 : k < l.length := (by omega);refine k_ 5 ?_;refine elC Θ k (List.getElem?_eq_getElem (l := l) hk1) ?_; rintro zbp zop zyp hAp;refine k_ 3 ?_;refine ls (op (p_ia k hAp hk1 rfl underlying23 sizeOf99 rfl rfl) rfl) ?_;refine k_ 1 ?_;refine ls (o_ldi isAgg3 rfl Θ 0 rfl Δ rfl) ?_;refine k_ 4 ?_;refine cc rfl ?_ ?_
  ·intro h18;have h18 : decide (l[k].id = v) = true := h18;refine k_ 8 ?_;refine rret (is := []) () (Or.inl rfl) (Res.t rfl Res.d) ?_ rfl Ω;simp only [packV]; rw [atP_yes hk1 hkk h18]
  ·intro h18;have h18 : decide (l[k].id = v) = false := h18;refine k_ 8 ?_;refine nnext ⟨k + 1, hk1, by rw [List.take_succ_eq_append_getElem hk1, List.any_append, hkk]; simp only [List.any_cons, List.any_nil, h18, Bool.or_false]⟩ (by dsimp only; omega) (wK [])
 ·intro h9;(try simp only [nrmZ] at h9);refine k_ 12 ?_;refine rret (is := []) () (Or.inl rfl) (Res.t rfl Res.d) ?_ rfl Ω;simp only [packV]; rw [atP_no (by rw [List.take_of_length_le (by omega)] at hkk; exact hkk)]
theorem c_r8Tree (l : List Patch) (A : Option Addr) (c : Nat) (hl : l.length ≤ 2000000) (hf : ∀ q ∈ l, q.fit) (hz : lns (pl l) ≤ 600000) (hy : (pl l).length ≤ 600000) : Con Tryz.prog 39 [.slice A l.length c] [] [slA A l] (Option Addr × Nat) (fun y => .slice y.1 (treeP l).length y.2) (fun _ => []) (fun y => [slA y.1 (treeP l)]) := by
 refine con func39 rfl ntmps39 rfl ?_;intro M0 F0 w0;refine k_ 12 ?_;refine cmono (fun a w h => nilSl (α := File) h) ?_;refine k_ 5 ?_;refine cl (ι := {q : Nat × (Option Addr × Nat) // q.1 ≤ l.length}) (fun i => St M0 F0 w0 27 [(0, .slice A l.length c), (3, .slice i.1.2.1 (treeP (l.take i.1.1)).length i.1.2.2), (4, .int .i64 ((i.1.1 : Nat) : Int))] [] [slA (i.1.2.1) (treeP (l.take i.1.1)), slA A l]) (fun i => l.length - i.1.1) ⟨(0, (none, 0)), Nat.zero_le _⟩ (wk0 Φ Ω) ?_;rintro ⟨⟨k, ⟨A3, c3⟩⟩, hk⟩;refine cmono (S' := St M0 F0 w0 27 [(0, .slice A l.length c), (3, .slice A3 (treeP (l.take k)).length c3), (4, .int .i64 ((k : Nat) : Int))] [] [slA (A3) (treeP (l.take k)), slA A l]) Ħ ?_;refine k_ 9 ?_;refine cc rfl ?_ ?_
 ·intro h10;dsimp only at hk;(try simp only [nrmZ] at h10);have hk1 : k < l.length := (by omega);have hfk := hf _ (List.getElem_mem hk1);have hap := treeP_app (l.take k);have hb := lns_pl hk1;have htl := hap.len;refine k_ 5 ?_;refine elC (A := A) (l := l) Θ k (List.getElem?_eq_getElem (l := l) hk1) ?_; rintro zbp zop zyp hAp;refine k_ 4 ?_;refine ls (op (p_ia k hAp hk1 rfl underlying23 sizeOf99 rfl rfl) rfl) ?_;refine k_ 1 ?_;refine ls (o_ldi isAgg24 rfl Θ 3 rfl Δ rfl) ?_;refine lC [] call87 (c_ref5Apply (treeP (l.take k)) A3 c3 (by omega) _ _ hap l[k].l zyp.2.1 zyp.2.2 (by omega) hfk.lf (by omega) (by omega)) ?_; rintro ⟨⟨⟨U, e20⟩, ⟨A20, c20⟩⟩, hq⟩;dsimp only at hq;refine k_ 13 ?_;refine cc rfl ?_ ?_
  ·intro h24;have eT : treeP (l.take (k + 1)) = U := (by rw [List.take_succ_eq_append_getElem hk1, treeP_snoc, ← hq]);refine k_ 11 ?_;refine nnext ⟨(k + 1, (A20, c20)), hk1⟩ (by dsimp only; omega) (fun a w h => by dsimp only; rw [eT]; exact wL [] h)
  ·intro h24;have he : ¬ e20 = 0 := (by have h := h24; simpa using h);have eT : treeP (l.take (k + 1)) = treeP (l.take k) := (by rw [List.take_succ_eq_append_getElem hk1, treeP_snoc, ← hq]; exact rowT_no hq he);refine k_ 8 ?_;refine nnext ⟨(k + 1, (A3, c3)), hk1⟩ (by dsimp only; omega) (fun a w h => by dsimp only; rw [eT]; exact wL [] h)
 ·intro h10;dsimp only at hk;(try simp only [nrmZ] at h10);obtain rfl : k = l.length := (by omega);rw [List.take_length];refine k_ 13 ?_;exact rR [] (A3, c3)
theorem c_r8Add (l : List Patch) (A : Option Addr) (c : Nat) (hl : l.length ≤ 2000000) (hf : ∀ q ∈ l, q.fit) (hz : lns (pl l) ≤ 600000) (hy : (pl l).length ≤ 600000) (q : Patch) (y : Rp.Lay Patch) (hq : q.fit) (hqz : lns q.l ≤ 600000) (hqy : q.l.length ≤ 600000) : Con Tryz.prog 59 [.slice A l.length c, sv q y] [] [slA A l, nilA (A, c), capA c l.length, slA y.1.1 q.deps, slA y.2.1 q.l, capA y.2.2 q.l.length] {x : (List Patch × Int) × (Option Addr × Nat) // x.1 = addD l q} (fun x => .tuple #[.slice x.1.2.1 x.1.1.1.length x.1.2.2, .int .i64 x.1.1.2]) (fun _ => []) (fun x => [slA x.1.2.1 x.1.1.1, nilA x.1.2, capA x.1.2.2 x.1.1.1.length]) := by
 refine con func59 rfl ntmps59 rfl ?_;intro M0 F0 w0;refine k_ 2 ?_;refine ls (o_box rfl rfl rfl) ?_;refine le ?_; intro b3;refine k_ 7 ?_;refine ls (o_ldw isAgg99 sizeOf99 rfl Θ (by rfl) rfl) ?_;refine lC [] call111 (c_rRight q y hq) ?_; intro x10;refine k_ 3 ?_;refine cc rfl ?_ ?_
 ·intro h11;have hr : q.right = false := (by have h := h11; simpa using h);refine k_ 9 ?_;exact rR [] ⟨((l, 70), (A, c)), by unfold addD; rw [if_pos hr]⟩
 ·intro h11;have hr : q.right = true := (by have h := h11; simpa using h);refine k_ 8 ?_;refine lC [] call112 (c_r8At l A c hl q.id) ?_; intro x16;refine k_ 3 ?_;refine cc rfl ?_ ?_
  ·intro h17;have ha : 0 ≤ atP l q.id := of_decide_eq_true h17;refine k_ 9 ?_;exact rR [] ⟨((l, 80), (A, c)), by unfold addD; rw [if_neg (by rw [hr]; simp), if_pos ha]⟩
  ·intro h17;have ha : ¬ 0 ≤ atP l q.id := of_decide_eq_false h17;refine k_ 4 ?_;have hdl := hq.dl;refine k_ 5 ?_;refine cl (ι := {k : Nat // k ≤ q.deps.length ∧ ((q.deps.take k).any fun d => decide (atP l d < 0)) = false}) (fun i => St M0 F0 w0 53 [(0, .slice A l.length c), (3, pT b3), (6, .int .i64 ((i.1 : Nat) : Int))] [box b3 99 (Rp.enc q y)] [slA A l, nilA (A, c), capA c l.length, slA y.1.1 q.deps, slA y.2.1 q.l, capA y.2.2 q.l.length]) (fun i => q.deps.length - i.1) ⟨0, Nat.zero_le _, by simp⟩ (wk0 Φ Ω) ?_;rintro ⟨k, hk, hkk⟩;refine cmono (S' := St M0 F0 w0 53 [(0, .slice A l.length c), (3, pT b3), (6, .int .i64 ((k : Nat) : Int))] [box b3 99 (Rp.enc q y)] [slA A l, nilA (A, c), capA c l.length, slA y.1.1 q.deps, slA y.2.1 q.l, capA y.2.2 q.l.length]) Ħ ?_;refine k_ 10 ?_;refine cc rfl ?_ ?_
   ·intro h23;(try simp only [nrmZ] at h23);have hk1 : k < q.deps.length := (by omega);refine k_ 5 ?_;refine elC (A := y.1.1) (l := q.deps) Θ k (List.getElem?_eq_getElem (l := q.deps) hk1) ?_; rintro zbp zop zyp hAp;refine k_ 5 ?_;refine ls (op (p_ia k hAp hk1 rfl underlying61 sizeOf3 rfl rfl) rfl) ?_;refine ls (o_ldi isAgg3 rfl Θ 0 rfl Δ rfl) ?_;refine lC [] call112 (c_r8At l A c hl q.deps[k]) ?_; intro x32;refine k_ 3 ?_;refine cc rfl ?_ ?_
    ·intro h33;have hd : (q.deps.any fun d => decide (atP l d < 0)) = true := List.any_eq_true.2 ⟨q.deps[k], List.getElem_mem hk1, h33⟩;refine k_ 9 ?_;exact rR [] ⟨((l, 82), (A, c)), by unfold addD; rw [if_neg (by rw [hr]; simp), if_neg ha, if_pos hd]⟩
    ·intro h33;have h33 : decide (atP l q.deps[k] < 0) = false := h33;refine k_ 8 ?_;refine nnext ⟨k + 1, hk1, by rw [List.take_succ_eq_append_getElem hk1, List.any_append, hkk]; simp only [List.any_cons, List.any_nil, h33, Bool.or_false]⟩ (by dsimp only; omega) (wk0 Φ Ω)
   ·intro h23;(try simp only [nrmZ] at h23);rw [List.take_of_length_le (by omega)] at hkk;refine k_ 6 ?_;have hap := treeP_app l; have htl := hap.len;refine cd [1, 4] [(3, b3, 3, _)] TryzX.mixed (tB 1 TOk.d) ?_;refine u_ 0 1 ?_;refine u_ 2 2 ?_;refine df 1 Ψ ?_;refine doR rfl (o_call (is := []) call39 (c_r8Tree l A c hl hf hz hy) rfl rfl Ω rfl) (TOk.t (isBoxE fun _ => isBoxS Θ (k := 1) Δ) TOk.d) ?_;refine ea ?_; rintro ⟨A37, c37⟩;refine df 4 Ψ ?_;refine doR rfl (o_call (is := []) call87 (c_ref5Apply (treeP l) A37 c37 (by omega) _ _ hap q.l y.2.1 y.2.2 (by omega) hq.lf (by omega) (by omega)) rfl rfl Ω rfl) tX ?_;refine ea ?_; rintro ⟨⟨⟨U, e40⟩, ⟨A40, c40⟩⟩, hq40⟩;dsimp only at hq40;refine u_ 5 5 ?_;refine dn Ψ ?_;refine k_ 8 ?_;refine cc rfl ?_ ?_
    ·intro h44;have he : ¬ e40 = 0 := (by have h := h44; simpa using h);refine k_ 10 ?_;exact rR [] ⟨((l, e40), (A, c)), by unfold addD; rw [if_neg (by rw [hr]; simp), if_neg ha, if_neg (by rw [hkk]; simp), ← hq40, if_neg he]⟩
    ·intro h44;obtain rfl : e40 = 0 := (by have h := h44; simpa using h);refine k_ 3 ?_;refine cutC (S' := fun a w => ∃ (A52 : Option Addr) (c52 : Nat), St M0 F0 w0 53 [(4, .slice A52 (l ++ [q]).length c52), (5, .int .i64 0)] [box b3 99 (Rp.enc q y)] [slA A52 (l ++ [q]), nilA (A52, c52), capA c52 (l ++ [q]).length] a w) ?_ ?_
     ·
      refine cd [0, 2, 4, 5] [(3, b3, 0, _)] TryzX.mixed (tB 4 TOk.d) ?_;refine u_ 1 1 ?_;refine u_ 3 1 ?_;refine dall (is := [0, 4]) Ψ rfl ?_;intro i hi; simp only [List.mem_cons, List.mem_nil_iff, or_false] at hi; rcases hi with rfl | rfl
      ·
       refine doR rfl (o_bsl ([] : List Patch) underlying23 sizeOf99 zeroValue99 rfl Enum.d RV.d rfl (by decide) (by decide) rfl) (TOk.t (isBoxE fun _ => isBoxS Θ (k := 4) Δ) TOk.d) ?_;refine ea ?_; intro b47;refine dall (is := [2, 4]) Ψ rfl ?_;intro i hi; simp only [List.mem_cons, List.mem_nil_iff, or_false] at hi; rcases hi with rfl | rfl
       ·
        refine doR rfl (o_appX (i := 0) underlying23 inf99 rfl (by decide) (by decide) rfl rfl (by simp only [List.length_nil]; omega) rfl Ω rfl) (TOk.t (isBoxE fun _ => isBoxS Θ (k := 4) Δ) TOk.d) ?_;refine ea ?_; rintro ⟨A49, c49⟩;refine df 4 Ψ ?_;refine doR rfl (o_bsl [q] underlying23 sizeOf99 zeroValue99 rfl (Enum.t Enum.d) (RV.t y rfl Ω RV.d) rfl (by decide) (by decide) rfl) tX ?_;refine ea ?_; intro b51;refine amono (fun a w h => Go.Sx.freeze (i := 0) rfl h) ?_;refine df 5 Ψ ?_;refine doR rfl (o_appX (i := 0) underlying23 inf99 rfl (by decide) (by decide) rfl rfl (by simp only [List.length_append, List.length_cons, List.length_nil]; omega) rfl Ω rfl) tX ?_;refine ea ?_; rintro ⟨A52, c52⟩;refine amono (fun a w h => freezeN (i := 0) rfl h) ?_;refine u_ 6 2 ?_;refine dn Ψ (nmid (fun a w h => by first | exact ⟨A52, c52, wL [0] h⟩))
       ·
        refine doR rfl (o_bsl [q] underlying23 sizeOf99 zeroValue99 rfl (Enum.t Enum.d) (RV.t y rfl Ω RV.d) rfl (by decide) (by decide) rfl) tX ?_;refine ea ?_; intro b51;refine amono (fun a w h => Go.Sx.freeze (i := 0) rfl h) ?_;refine df 2 Ψ ?_;refine doR rfl (o_appX (i := 0) underlying23 inf99 rfl (by decide) (by decide) rfl rfl (by simp only [List.length_nil]; omega) rfl Ω rfl) tX ?_;refine ea ?_; rintro ⟨A49, c49⟩;refine df 5 Ψ ?_;refine doR rfl (o_appX (i := 0) underlying23 inf99 rfl (by decide) (by decide) rfl rfl (by simp only [List.length_append, List.length_cons, List.length_nil]; omega) rfl Ω rfl) tX ?_;refine ea ?_; rintro ⟨A52, c52⟩;refine amono (fun a w h => freezeN (i := 0) rfl h) ?_;refine u_ 6 2 ?_;refine dn Ψ (nmid (fun a w h => by first | exact ⟨A52, c52, wL [0] h⟩))
      ·
       refine doR rfl (o_bsl [q] underlying23 sizeOf99 zeroValue99 rfl (Enum.t Enum.d) (RV.t y rfl Ω RV.d) rfl (by decide) (by decide) rfl) tX ?_;refine ea ?_; intro b51;refine amono (fun a w h => Go.Sx.freeze (i := 0) rfl h) ?_;refine df 0 Ψ ?_;refine doR rfl (o_bsl ([] : List Patch) underlying23 sizeOf99 zeroValue99 rfl Enum.d RV.d rfl (by decide) (by decide) rfl) tX ?_;refine ea ?_; intro b47;refine df 2 Ψ ?_;refine doR rfl (o_appX (i := 0) underlying23 inf99 rfl (by decide) (by decide) rfl rfl (by simp only [List.length_nil]; omega) rfl Ω rfl) tX ?_;refine ea ?_; rintro ⟨A49, c49⟩;refine df 5 Ψ ?_;refine doR rfl (o_appX (i := 0) underlying23 inf99 rfl (by decide) (by decide) rfl rfl (by simp only [List.length_append, List.length_cons, List.length_nil]; omega) rfl Ω rfl) tX ?_;refine ea ?_; rintro ⟨A52, c52⟩;refine amono (fun a w h => freezeN (i := 0) rfl h) ?_;refine u_ 6 2 ?_;refine dn Ψ (nmid (fun a w h => by first | exact ⟨A52, c52, wL [0] h⟩))
     ·
      refine nex fun A52 => nex fun c52 => ?_;refine k_ 3 ?_;exact rR [] ⟨((l ++ [q], 0), (A52, c52)), by unfold addD; rw [if_neg (by rw [hr]; simp), if_neg ha, if_neg (by rw [hkk]; simp), ← hq40, if_pos rfl]⟩
theorem c_r8Last (l : List Patch) (A : Option Addr) (c : Nat) (hl : l.length ≤ 2000000) (hf : ∀ q ∈ l, q.fit) (v : Int) : Con Tryz.prog 135 [.slice A l.length c, .int .i64 v] [] [slA A l, nilA (A, c), capA c l.length] {x : (List Patch × Int) × (Option Addr × Nat) // x.1 = lastP l v} (fun x => .tuple #[.slice x.1.2.1 x.1.1.1.length x.1.2.2, .int .i64 x.1.1.2]) (fun _ => []) (fun x => [slA x.1.2.1 x.1.1.1, nilA x.1.2, capA x.1.2.2 x.1.1.1.length]) := by
 refine con func135 rfl ntmps135 rfl ?_;intro M0 F0 w0;refine k_ 10 ?_;refine lC [] call112 (c_r8At l A c hl v) ?_; intro x14;refine k_ 10 ?_;refine cc rfl ?_ ?_
 ·intro h16;have hn : atP l v < 0 := of_decide_eq_true h16;refine k_ 9 ?_;exact rR [] ⟨((l, 81), (A, c)), (lastP_no hn).symm⟩
 ·intro h16;have hn : ¬ atP l v < 0 := of_decide_eq_false h16;obtain ⟨k, hk1, hk2, _⟩ : ∃ k : Nat, ∃ h : k < l.length, atP l v = (k : Int) ∧ l[k].id = v ∧ ∀ j (hj : j < k), l[j].id ≠ v := (by rcases atP_cases l v with ⟨h, _⟩ | h; omega; exact h);have hDl : (l.drop (k + 1)).length = l.length - (k + 1) := List.length_drop;have hfD : ∀ q ∈ (l.drop (k + 1)), q.fit := fun q hq => hf q (List.mem_of_mem_drop hq);refine k_ 4 ?_;refine ls (o_bsl ([] : List Patch) underlying23 sizeOf99 zeroValue99 rfl Enum.d RV.d rfl (by decide) (by decide) rfl) ?_;refine le ?_; intro b18;refine k_ 1 ?_;refine ls (o_appX (i := 0) underlying23 inf99 rfl (by decide) (by decide) rfl rfl (by simp only [List.length_nil]; omega) rfl Ω rfl) ?_;refine le ?_; rintro ⟨A20, c20⟩;refine k_ 7 ?_;refine fixL (v' := .int .i64 ((k : Nat) : Int)) (congrArg (Value.int .i64) hk2) ?_;refine k_ 4 ?_;refine cl (ι := {q : (Nat × List Patch) × Patch × (Option Addr × Nat) // q.1.1 ≤ (l.drop (k + 1)).length ∧ lastF l[k] ((l.drop (k + 1)).take q.1.1) = some (q.1.2, q.2.1)}) (fun i => St M0 F0 w0 56 [(0, .slice A l.length c), (7, .slice i.1.2.2.1 l.length i.1.2.2.2), (8, .int .i64 ((k + i.1.1.1 : Nat) : Int))] [row 99 (i.1.2.2.1) (i.1.2.2.2) (l.take k ++ (i.1.1.2 ++ (i.1.2.1 :: (l.drop (k + 1)).drop i.1.1.1)))] [slA A l, nilA (A, c), capA c l.length]) (fun i => (l.drop (k + 1)).length - i.1.1.1) ⟨((0, []), l[k], (A20, c20)), Nat.zero_le _, rfl⟩ (fun a w h => by dsimp only; rw [show l.take k ++ ([] ++ (l[k] :: (l.drop (k + 1)).drop 0)) = [] ++ l by rw [List.drop_zero, ← List.drop_eq_getElem_cons hk1]; simp]; exact wL [0] h) ?_;rintro ⟨⟨⟨n, s⟩, b, ⟨A7, c7⟩⟩, hk3, hlf⟩;refine cmono (S' := St M0 F0 w0 56 [(0, .slice A l.length c), (7, .slice A7 l.length c7), (8, .int .i64 ((k + n : Nat) : Int))] [row 99 (A7) (c7) (l.take k ++ (s ++ (b :: (l.drop (k + 1)).drop n)))] [slA A l, nilA (A, c), capA c l.length]) Ħ ?_;refine k_ 4 ?_;refine ls (op (p_add rfl rfl (by dsimp only at hk3; omega)) rfl) ?_;refine k_ 5 ?_;refine cc rfl ?_ ?_
  ·intro h26;dsimp only at hk3 hlf;(try simp only [nrmZ] at h26);have hk4 : n < (l.drop (k + 1)).length := (by omega);have hls := lastF_len hlf;have hfb := (lastF_fit hlf (hf _ (List.getElem_mem hk1)) (fun q hq => hfD q (List.mem_of_mem_take hq))).2;have hfq := hfD _ (List.getElem_mem hk4);have hti : (l.take k).length = k := (by rw [List.length_take]; omega);have hsn : s.length = n := (by rw [hls, List.length_take]; omega);have eD : (l.drop (k + 1)).drop n = (l.drop (k + 1))[n] :: (l.drop (k + 1)).drop (n + 1) := List.drop_eq_getElem_cons hk4;rw [eD];refine rowC (α := Patch) Θ (by intro e; simp at e) ?_; rintro g rfl;refine k_ 5 ?_;refine cmono (fun a w h => pin0 (α := Patch) Θ Θ h) ?_;refine pinC (α := Patch) (k + n) Θ (mid_get1 (by omega)) (fun _ => Θ) ?_; intro yp;refine pinC (α := Patch) (k + n + 1) Θ (mid_get2 (by omega)) (fun _ => Θ) ?_; intro yq;refine cutC (S' := fun a w => ∃ (b9 : Nat) (b10 : Nat) (r1 : Patch) (r2 : Patch) (r3 : Bool) (z1 : Rp.Lay Patch) (z2 : Rp.Lay Patch) (hr : (r1, r2, r3) = pswap b (l.drop (k + 1))[n]), St M0 F0 w0 56 [(0, .slice A l.length c), (7, .slice (some ⟨g, 0, none⟩) l.length c7), (8, .int .i64 ((k + n : Nat) : Int)), (9, pT b9), (10, pT b10), (11, .bool r3)] [rowPin 99 g c7 (l.take k ++ (s ++ (b :: (l.drop (k + 1))[n] :: (l.drop (k + 1)).drop (n + 1)))) [(k + n + 1, (l.drop (k + 1))[n], yq), (k + n, b, yp)], box b9 99 (Rp.enc r1 z1), box b10 99 (Rp.enc r2 z2)] [slA z1.1.1 r1.deps, slA z1.2.1 r1.l, capA z1.2.2 r1.l.length, slA z2.1.1 r2.deps, slA z2.2.1 r2.l, capA z2.2.2 r2.l.length, slA A l, nilA (A, c), capA c l.length] a w) ?_ ?_
   ·
    refine cd [9, 14, 15, 16, 17] [(3, g, 0 + (k + n) * Rp.size Patch, _), (8, g, 0 + (k + n + 1) * Rp.size Patch, _)] TryzX.mixed (TOk.t (isPin Θ (mT (List.Mem.head _))) (TOk.t (isPin Θ (List.Mem.head _)) TOk.d)) ?_;refine u_ 0 2 ?_;refine tk 2 rfl Ψ Υ gnone (TTany _) (p_ia (k + n) rfl (by omega) (by omega) underlying23 sizeOf99 rfl rfl) rfl ?_;refine u_ 3 4 ?_;refine tk 7 rfl Ψ Υ gnone (TTany _) (p_ia (k + n + 1) rfl (by omega) (by omega) underlying23 sizeOf99 rfl rfl) rfl ?_;refine u_ 8 1 ?_;refine dall (is := [9, 14, 15]) Ψ rfl ?_;intro i hi; simp only [List.mem_cons, List.mem_nil_iff, or_false] at hi; rcases hi with rfl | rfl | rfl
    ·
     refine doR rfl (o_call (is := []) call184 (c_rSwap b (l.drop (k + 1))[n] yp yq hfb hfq) rfl rfl Ω rfl) tX ?_;refine ea ?_; rintro ⟨⟨⟨r1, r2, r3⟩, z1, z2⟩, hr⟩;dsimp only at hr;refine u_ 10 4 ?_;refine dall (is := [14, 15]) Ψ rfl ?_;intro i hi; simp only [List.mem_cons, List.mem_nil_iff, or_false] at hi; rcases hi with rfl | rfl
     ·
      refine doR rfl (o_alloc zeroValue99 rfl rfl) tX ?_;refine ea ?_; intro b9;refine df 15 Ψ ?_;refine doR rfl (o_alloc zeroValue99 rfl rfl) tX ?_;refine ea ?_; intro b10;refine df 16 Ψ ?_;refine doR rfl (o_st rfl sizeOf99 rfl rfl rfl rfl rfl Θ Θ Θ) tX ?_;refine df 17 Ψ ?_;refine doR rfl (o_st rfl sizeOf99 rfl rfl rfl rfl rfl Θ Θ Θ) tX ?_;refine u_ 18 1 ?_;refine dn Ψ (nmid (fun a w h => by first | exact ⟨b9, b10, r1, r2, r3, z1, z2, hr, wL [2, 1, 0] h⟩ | exact ⟨b9, b10, r1, r2, r3, z1, z2, hr, wL [2, 0, 0] h⟩))
     ·
      refine doR rfl (o_alloc zeroValue99 rfl rfl) tX ?_;refine ea ?_; intro b10;refine df 14 Ψ ?_;refine doR rfl (o_alloc zeroValue99 rfl rfl) tX ?_;refine ea ?_; intro b9;refine df 16 Ψ ?_;refine doR rfl (o_st rfl sizeOf99 rfl rfl rfl rfl rfl Θ Θ Θ) tX ?_;refine df 17 Ψ ?_;refine doR rfl (o_st rfl sizeOf99 rfl rfl rfl rfl rfl Θ Θ Θ) tX ?_;refine u_ 18 1 ?_;refine dn Ψ (nmid (fun a w h => by first | exact ⟨b9, b10, r1, r2, r3, z1, z2, hr, wL [2, 1, 0] h⟩ | exact ⟨b9, b10, r1, r2, r3, z1, z2, hr, wL [2, 0, 0] h⟩))
    ·
     refine doR rfl (o_alloc zeroValue99 rfl rfl) (TOk.t (isBoxE fun _ => isPin Θ (mT (List.Mem.head _))) (TOk.t (isBoxE fun _ => isPin Θ (List.Mem.head _)) TOk.d)) ?_;refine ea ?_; intro b9;refine dall (is := [9, 15]) Ψ rfl ?_;intro i hi; simp only [List.mem_cons, List.mem_nil_iff, or_false] at hi; rcases hi with rfl | rfl
     ·
      refine doR rfl (o_call (is := []) call184 (c_rSwap b (l.drop (k + 1))[n] yp yq hfb hfq) rfl rfl Ω rfl) tX ?_;refine ea ?_; rintro ⟨⟨⟨r1, r2, r3⟩, z1, z2⟩, hr⟩;dsimp only at hr;refine u_ 10 4 ?_;refine df 15 Ψ ?_;refine doR rfl (o_alloc zeroValue99 rfl rfl) tX ?_;refine ea ?_; intro b10;refine df 16 Ψ ?_;refine doR rfl (o_st rfl sizeOf99 rfl rfl rfl rfl rfl Θ Θ Θ) tX ?_;refine df 17 Ψ ?_;refine doR rfl (o_st rfl sizeOf99 rfl rfl rfl rfl rfl Θ Θ Θ) tX ?_;refine u_ 18 1 ?_;refine dn Ψ (nmid (fun a w h => by first | exact ⟨b9, b10, r1, r2, r3, z1, z2, hr, wL [2, 1, 0] h⟩ | exact ⟨b9, b10, r1, r2, r3, z1, z2, hr, wL [2, 0, 0] h⟩))
     ·
      refine doR rfl (o_alloc zeroValue99 rfl rfl) (TOk.t (isBoxE fun _ => isPin Θ (mT (List.Mem.head _))) (TOk.t (isBoxE fun _ => isPin Θ (List.Mem.head _)) TOk.d)) ?_;refine ea ?_; intro b10;refine df 9 Ψ ?_;refine doR rfl (o_call (is := []) call184 (c_rSwap b (l.drop (k + 1))[n] yp yq hfb hfq) rfl rfl Ω rfl) tX ?_;refine ea ?_; rintro ⟨⟨⟨r1, r2, r3⟩, z1, z2⟩, hr⟩;dsimp only at hr;refine u_ 10 4 ?_;refine df 16 Ψ ?_;refine doR rfl (o_st rfl sizeOf99 rfl rfl rfl rfl rfl Θ Θ Θ) tX ?_;refine df 17 Ψ ?_;refine doR rfl (o_st rfl sizeOf99 rfl rfl rfl rfl rfl Θ Θ Θ) tX ?_;refine u_ 18 1 ?_;refine dn Ψ (nmid (fun a w h => by first | exact ⟨b9, b10, r1, r2, r3, z1, z2, hr, wL [2, 1, 0] h⟩ | exact ⟨b9, b10, r1, r2, r3, z1, z2, hr, wL [2, 0, 0] h⟩))
    ·
     refine doR rfl (o_alloc zeroValue99 rfl rfl) (TOk.t (isBoxE fun _ => isPin Θ (mT (List.Mem.head _))) (TOk.t (isBoxE fun _ => isPin Θ (List.Mem.head _)) TOk.d)) ?_;refine ea ?_; intro b10;refine dall (is := [9, 14]) Ψ rfl ?_;intro i hi; simp only [List.mem_cons, List.mem_nil_iff, or_false] at hi; rcases hi with rfl | rfl
     ·
      refine doR rfl (o_call (is := []) call184 (c_rSwap b (l.drop (k + 1))[n] yp yq hfb hfq) rfl rfl Ω rfl) tX ?_;refine ea ?_; rintro ⟨⟨⟨r1, r2, r3⟩, z1, z2⟩, hr⟩;dsimp only at hr;refine u_ 10 4 ?_;refine df 14 Ψ ?_;refine doR rfl (o_alloc zeroValue99 rfl rfl) tX ?_;refine ea ?_; intro b9;refine df 16 Ψ ?_;refine doR rfl (o_st rfl sizeOf99 rfl rfl rfl rfl rfl Θ Θ Θ) tX ?_;refine df 17 Ψ ?_;refine doR rfl (o_st rfl sizeOf99 rfl rfl rfl rfl rfl Θ Θ Θ) tX ?_;refine u_ 18 1 ?_;refine dn Ψ (nmid (fun a w h => by first | exact ⟨b9, b10, r1, r2, r3, z1, z2, hr, wL [2, 1, 0] h⟩ | exact ⟨b9, b10, r1, r2, r3, z1, z2, hr, wL [2, 0, 0] h⟩))
     ·
      refine doR rfl (o_alloc zeroValue99 rfl rfl) (TOk.t (isBoxE fun _ => isPin Θ (mT (List.Mem.head _))) (TOk.t (isBoxE fun _ => isPin Θ (List.Mem.head _)) TOk.d)) ?_;refine ea ?_; intro b9;refine df 9 Ψ ?_;refine doR rfl (o_call (is := []) call184 (c_rSwap b (l.drop (k + 1))[n] yp yq hfb hfq) rfl rfl Ω rfl) tX ?_;refine ea ?_; rintro ⟨⟨⟨r1, r2, r3⟩, z1, z2⟩, hr⟩;dsimp only at hr;refine u_ 10 4 ?_;refine df 16 Ψ ?_;refine doR rfl (o_st rfl sizeOf99 rfl rfl rfl rfl rfl Θ Θ Θ) tX ?_;refine df 17 Ψ ?_;refine doR rfl (o_st rfl sizeOf99 rfl rfl rfl rfl rfl Θ Θ Θ) tX ?_;refine u_ 18 1 ?_;refine dn Ψ (nmid (fun a w h => by first | exact ⟨b9, b10, r1, r2, r3, z1, z2, hr, wL [2, 1, 0] h⟩ | exact ⟨b9, b10, r1, r2, r3, z1, z2, hr, wL [2, 0, 0] h⟩))
   ·
    refine nex fun b9 => nex fun b10 => nex fun r1 => nex fun r2 => nex fun r3 => nex fun z1 => nex fun z2 => nex fun hr => ?_;refine k_ 8 ?_;refine cc rfl ?_ ?_
    ·intro h44;obtain rfl : false = r3 := (by cases r3 <;> first | rfl | (simp at h44))
     have hno : lastF l[k] (l.drop (k + 1)) = none := lastF_stuck hk4 hlf hr;refine k_ 9 ?_;exact rR [] ⟨((l, 83), (A, c)), (lastP_none hk1 hk2 hno).symm⟩
    ·intro h44;obtain rfl : true = r3 := (by cases r3 <;> first | rfl | (simp at h44))
     refine k_ 3 ?_;refine cmono (fun a w h => unpin (α := Patch) Θ Θ h) ?_;refine k_ 3 ?_;refine ls (o_ldw isAgg99 sizeOf99 rfl Θ (by rfl) rfl) ?_;refine ls (op (p_ia (k + n) rfl (by omega) (by omega) underlying23 sizeOf99 rfl rfl) rfl) ?_;refine ls (o_strow (z := r1) (yz := z1) rfl sizeOf99 rfl rfl rfl Θ (by simp; omega) Θ Ω) ?_;refine k_ 6 ?_;refine ls (o_ldw isAgg99 sizeOf99 rfl Θ (by rfl) rfl) ?_;refine ls (op (p_ia (k + n + 1) rfl (by omega) (by omega) underlying23 sizeOf99 rfl rfl) rfl) ?_;refine ls (o_strow (z := r2) (yz := z2) rfl sizeOf99 rfl rfl rfl Θ (by simp; omega) Θ Ω) ?_;refine k_ 8 ?_;rw [mid_set (by omega)];refine nnext ⟨((n + 1, s ++ [r1]), r2, (some ⟨g, 0, none⟩, c7)), hk4, lastF_step hk4 hlf hr⟩ (by dsimp only; omega) (wK [0])
  ·intro h26;dsimp only at hk3 hlf;(try simp only [nrmZ] at h26);obtain rfl : n = (l.drop (k + 1)).length := (by omega);rw [List.take_length] at hlf;have hls := lastF_len hlf;refine k_ 6 ?_;refine cmono (fun a w h => rowEq (α := Patch) (l' := l.take k ++ s ++ [b]) Θ (by rw [List.drop_eq_nil_of_le (Nat.le_refl _)]; simp) Θ h) ?_;refine cmono (fun a w h => freezeN (i := 0) rfl h) ?_;refine k_ 8 ?_;refine rret (is := []) ⟨((l.take k ++ s ++ [b], 0), (A7, c7)), (lastP_some hk1 hk2 hlf).symm⟩ (Or.inl rfl) (Res.t rfl (Res.t rfl Res.d)) ?_ rfl Ω;dsimp only [packV]; rw [show (l.take k ++ s ++ [b]).length = l.length by simp only [List.length_append, List.length_take, List.length_cons, List.length_nil]; omega]
end Go.Proofs.YtbhnolfcdcpbkaaGreatDoor.X
end
section
namespace Go.Proofs.YtbhnolfcdcpbkaaGreatDoor.X
open Go Go.RowKit Go.Proofs Go.Sx
attribute [local irreducible] slA isA box row TrL TrC TrN TrA Pu OpR
set_option maxHeartbeats 8000000
end Go.Proofs.YtbhnolfcdcpbkaaGreatDoor.X
end
section
namespace Go.Proofs.YtbhnolfcdcpbkaaGreatDoor.X
open Go Go.RowKit Go.Proofs Go.Sx
attribute [local irreducible] slA isA box row TrL TrC TrN TrA Pu OpR
set_option maxHeartbeats 8000000
theorem pl_lns8 (l : List Patch) : lns (pl l) ≤ pmany l := by
 unfold pmany
 induction l with
 | nil => exact Nat.le_refl _
 | cons p l ih =>
  rw [pl_cons, lns_app];simp only [List.map_cons, List.sum_cons];have h1 := lns_many p.l;have h2 : Sx.many p.l ≤ p.many := (by unfold Patch.many; omega);omega
end Go.Proofs.YtbhnolfcdcpbkaaGreatDoor.X
end
section
namespace Go.Proofs.YtbhnolfcdcpbkaaGreatDoor.X
open Go Go.RowKit Go.Proofs Go.Sx
attribute [local irreducible] slA isA box row TrL TrC TrN TrA Pu OpR
set_option maxHeartbeats 8000000
theorem ptw {α β γ : Type} {a c : α} {b d : β} {e f : γ} (h : ((a, b), e) = ((c, d), f)) : a = c ∧ b = d ∧ e = f := by simpa [and_assoc] using h
end Go.Proofs.YtbhnolfcdcpbkaaGreatDoor.X
end
section
namespace Go.Proofs.YtbhnolfcdcpbkaaGreatDoor.X
open Go Go.RowKit Go.Proofs Go.Sx
attribute [local irreducible] slA isA box row TrL TrC TrN TrA Pu OpR
set_option maxHeartbeats 8000000
end Go.Proofs.YtbhnolfcdcpbkaaGreatDoor.X
end
section
namespace Go.Proofs.YtbhnolfcdcpbkaaGreatDoor.X
open Go Go.RowKit Go.Proofs Go.Sx
attribute [local irreducible] slA isA box row TrL TrC TrN TrA Pu OpR
set_option maxHeartbeats 8000000
end Go.Proofs.YtbhnolfcdcpbkaaGreatDoor.X
end
section
namespace Go.Proofs.YtbhnolfcdcpbkaaGreatDoor.X
open Go Go.RowKit Go.Proofs Go.Sx
attribute [local irreducible] slA isA box row TrL TrC TrN TrA Pu OpR
set_option maxHeartbeats 8000000
end Go.Proofs.YtbhnolfcdcpbkaaGreatDoor.X
end
section
namespace Go.Proofs.YtbhnolfcdcpbkaaGreatDoor.X
open Go Go.RowKit Go.Proofs Go.Sx
attribute [local irreducible] slA isA box row TrL TrC TrN TrA Pu OpR
set_option maxHeartbeats 8000000
end Go.Proofs.YtbhnolfcdcpbkaaGreatDoor.X
end
section
namespace Go.Proofs.YtbhnolfcdcpbkaaGreatDoor.X
open Go Go.RowKit Go.Proofs Go.Sx
attribute [local irreducible] slA isA box row TrL TrC TrN TrA Pu OpR
set_option maxHeartbeats 8000000
end Go.Proofs.YtbhnolfcdcpbkaaGreatDoor.X
end
section
namespace Go.Sx
open Go Go.RowKit
/-! Several things of one's own in one, and such of which only that there are some is told. -/
def bunX (xs : List Xsn) : Xsn where
 p F M w := ∃ Fs, all2 M w xs Fs ∧ Fs.Pairwise (fun F G => ∀ b, F b → ¬ G b) ∧ ∀ b, F b ↔ own Fs b
 st := by
  rintro F M M' w w' ⟨Fs, h1, h2, h3⟩ hb hm hs;exact ⟨Fs, h1.st (fun b hlt hF => hb b hlt (hF.imp (h3 b).2 id)) hm hs, h2, h3⟩
variable {ro : Option Nat} {P : Program} {M0 F0 : Nat → Prop} {w0 : World} {n : Nm} {σ : List (Nat × Value)} {Ξ : List Xsn} {Γ : List Asn} {d : Nat} {ty : TypeId} {pos : String} {af : Array Edge}
variable {ops : Array Oper} {Q : Exit → Act → World → Prop} {S S' : Act → World → Prop}
theorem Hp.repart {Ξ' : List Xsn} {Fs Fs' : List (Nat → Prop)} {w : World} (h : Hp M0 F0 w0 Ξ Γ Fs w) (ho : ∀ b, own Fs' b ↔ own Fs b) (hx : all2 (fun b => M0 b ∨ own Fs b) w Ξ' Fs') (hd : Fs'.Pairwise (fun F G => ∀ b, F b → ¬ G b)) : Hp M0 F0 w0 Ξ' Γ Fs' w := by
 have e : (fun b => M0 b ∨ own Fs' b) = (fun b => M0 b ∨ own Fs b) := funext fun b => propext (or_congr Iff.rfl (ho b));refine ⟨?_, hd, fun b hb => h.dis0 b ((ho b).1 hb), fun b hb => h.lt b ((ho b).1 hb), fun b hb => h.old b ((ho b).1 hb), ?_, h.up, h.m0, h.f0⟩
 ·rw [e]; exact hx
 ·rw [e]; exact h.ga
theorem Hp.front {Ξ' : List Xsn} {x : Xsn} {i : Nat} {Fs : List (Nat → Prop)} {w : World} (h : Hp M0 F0 w0 Ξ Γ Fs w) (hi : takeAt i Ξ = some (x, Ξ')) : ∃ F Fs', Hp M0 F0 w0 (x :: Ξ') Γ (F :: Fs') w := by
 obtain ⟨F, Fs', h1, h2, h3⟩ := h.ex.takeAt hi;have hp := takeAt_perm h1;exact ⟨F, Fs', h.repart (fun b => (own_perm hp b).symm) ⟨h2, h3⟩ (perm_pairwise hp h.dis)⟩
theorem St.front {Ξ' : List Xsn} {x : Xsn} {i : Nat} {a : Act} {w : World} (hi : takeAt i Ξ = some (x, Ξ')) (h : St M0 F0 w0 n σ Ξ Γ a w) : St M0 F0 w0 n σ (x :: Ξ') Γ a w := by
 obtain ⟨hs, Fs, hh⟩ := h;obtain ⟨F, Fs', h1⟩ := hh.front hi;exact ⟨hs, _, h1⟩
theorem St.unbun {Ξ' xs : List Xsn} {i : Nat} {a : Act} {w : World} (hi : takeAt i Ξ = some (bunX xs, Ξ')) (h : St M0 F0 w0 n σ Ξ Γ a w) : St M0 F0 w0 n σ (xs ++ Ξ') Γ a w := by
 obtain ⟨hs, Fs, hh⟩ := h.front hi;cases Fs with
 | nil => exact hh.ex.elim
 | cons F Fs =>
  obtain ⟨Gs, h1, h2, h3⟩ := hh.ex.1;have hd := List.pairwise_cons.1 hh.dis;refine ⟨hs, Gs ++ Fs, hh.repart (fun b => ?_) (all2.append h1 hh.ex.2) (List.pairwise_append.2 ⟨h2, hd.2, fun G hG H hH b hb => hd.1 H hH b ((h3 b).2 ⟨G, hG, hb⟩)⟩)⟩;rw [own_append, own_cons, h3 b]
theorem St.mkbun {xs : List Xsn} {a : Act} {w : World} (h : St M0 F0 w0 n σ (xs ++ Ξ) Γ a w) : St M0 F0 w0 n σ (bunX xs :: Ξ) Γ a w := by
 obtain ⟨hs, Fs, hh⟩ := h;obtain ⟨Gs, Hs, e, h1, h2⟩ := all2.split hh.ex;subst e;obtain ⟨d1, d2, d3⟩ := List.pairwise_append.1 hh.dis;refine ⟨hs, own Gs :: Hs, hh.repart (fun b => by rw [own_cons, own_append]) ⟨⟨Gs, h1, d1, fun b => Iff.rfl⟩, h2⟩ (List.pairwise_cons.2 ⟨fun H hH b ⟨G, hG, hb⟩ => d3 G hG H hH b hb, d2⟩)⟩
theorem St.unex {α : Type} {f : α → Xsn} {Ξ' : List Xsn} {i : Nat} {a : Act} {w : World} (hi : takeAt i Ξ = some (exX f, Ξ')) (h : St M0 F0 w0 n σ Ξ Γ a w) : ∃ z, St M0 F0 w0 n σ (f z :: Ξ') Γ a w := by
 obtain ⟨hs, Fs, hh⟩ := h.front hi;cases Fs with
 | nil => exact hh.ex.elim
 | cons F Fs =>
  obtain ⟨z, hz⟩ := hh.ex.1;exact ⟨z, hs, F :: Fs, hh.repart (fun b => Iff.rfl) ⟨hz, hh.ex.2⟩ hh.dis⟩
theorem St.mkex {α : Type} {f : α → Xsn} (z : α) {a : Act} {w : World} (h : St M0 F0 w0 n σ (f z :: Ξ) Γ a w) : St M0 F0 w0 n σ (exX f :: Ξ) Γ a w := by
 obtain ⟨hs, Fs, hh⟩ := h;cases Fs with
 | nil => exact hh.ex.elim
 | cons F Fs => exact ⟨hs, F :: Fs, hh.repart (fun b => Iff.rfl) ⟨⟨z, hh.ex.1⟩, hh.ex.2⟩ hh.dis⟩
theorem St.nobun {a : Act} {w : World} (h : St M0 F0 w0 n σ Ξ Γ a w) : St M0 F0 w0 n σ (bunX [] :: Ξ) Γ a w := by
 obtain ⟨hs, Fs, hh⟩ := h;exact ⟨hs, _, hh.push _ ⟨[], trivial, .nil, fun b => ⟨fun h => h.elim, fun h => absurd h (own_nil b)⟩⟩⟩
end Go.Sx
end
section
namespace Go.Sx
open Go Go.RowKit
theorem borrowZ {P : Program} {f : FuncId} {args : List Value} {Ξz Ξf : List Xsn} {Γi Γ' : List Asn} {X : Type} {rv : X → Value} {Ξo : X → List Xsn} {Γo : X → List Asn}
  (hfz : ∀ (M0 F0 : Nat → Prop) (w0 : World) (a : Act) (w : World), St M0 F0 w0 ⟨0, []⟩ [] Ξz Γi a w → St M0 F0 w0 ⟨0, []⟩ [] [] Γ' a w)
  (h : Con P f args Ξf Γ' X rv Ξo Γo) (hfree : ∀ x, (∀ z ∈ Ξo x, ∀ F M M' w, z.p F M w → z.p F M' w) ∧ Γo x = []) : Con P f args (Ξz ++ Ξf) Γi X rv (fun x => Ξz ++ Ξo x) Γo := by
 intro M0 Fs w hh;obtain ⟨Gs, Hs, rfl, k1, k2⟩ := all2.split hh.ex;obtain ⟨d1, d2, d3⟩ := List.pairwise_append.1 hh.dis;have hown : ∀ b, own (Gs ++ Hs) b ↔ own Gs b ∨ own Hs b := fun b => own_append;have hsep : ∀ b, own Gs b → ¬ own Hs b := fun b ⟨G, hG, hg⟩ ⟨H, hH, hb⟩ => d3 G hG H hH b hg hb;have hsl : Slots ⟨0, []⟩ [] { tmps := #[], defers := [] } := ⟨rfl, rfl, fun t v h => by cases h⟩;have hM : ∀ b, b < w.heap.size → ((M0 b ∨ own Hs b) ∨ own Gs b) → (M0 b ∨ own (Gs ++ Hs) b) := fun b _ hm => by
  rcases hm with (hm | hm) | hm
  ·exact .inl hm
  ·exact .inr ((hown b).2 (.inr hm))
  ·exact .inr ((hown b).2 (.inl hm))
 have hin : Hp (fun b => M0 b ∨ own Hs b) (own Gs) w Ξz Γi Gs w := ⟨k1.st (fun _ _ _ => rfl) hM (Nat.le_refl _), d1, fun b hb hm => hm.elim (hh.dis0 b ((hown b).2 (.inl hb))) (hsep b hb), fun b hb => hh.lt b ((hown b).2 (.inl hb)), fun b hb _ => hb,
  fun p hp => p.st _ _ w w (hh.ga p hp) (fun _ _ _ => rfl) hM (Nat.le_refl _), Upd.refl _ _, fun b hb => hb.elim (hh.m0 b) (fun hb => hh.lt b ((hown b).2 (.inr hb))), fun b hb hm => hm.elim (hh.dis0 b ((hown b).2 (.inl hb))) (hsep b hb)⟩
 obtain ⟨_, Fs', h1⟩ := hfz _ (own Gs) w _ w (⟨hsl, Gs, hin⟩ : St _ (own Gs) w ⟨0, []⟩ [] Ξz Γi { tmps := #[], defers := [] } w);have hnil : Fs' = [] := by
  cases Fs' with
  | nil => rfl
  | cons G Gs => exact h1.ex.elim
 subst hnil;have hin2 : Hp M0 (own Hs) w Ξf Γ' Hs w := ⟨k2.st (fun _ _ _ => rfl) (fun b _ hb => hb.imp id fun hb => (hown b).2 (.inr hb)) (Nat.le_refl _), d2, fun b hb => hh.dis0 b ((hown b).2 (.inr hb)), fun b hb => hh.lt b ((hown b).2 (.inr hb)), fun b hb _ => hb,
  fun p hp => p.st _ _ w w (h1.ga p hp) (fun _ _ _ => rfl) (fun b _ hb => .inl hb) (Nat.le_refl _), Upd.refl _ _, hh.m0, fun b hb => hh.dis0 b ((hown b).2 (.inr hb))⟩
 refine (h M0 Hs w hin2).mono ?_;rintro en w' ⟨x, Ks, rfl, hout⟩;obtain ⟨hfr, hgo⟩ := hfree x;have hGlt : ∀ b, own Gs b → b < w.heap.size := fun b hb => hh.lt b ((hown b).2 (.inl hb));have hGK : ∀ b, own Gs b → ¬ own Ks b := fun b hb hk => hsep b hb (hout.old b hk (hGlt b hb));refine ⟨x, Gs ++ Ks, rfl, ?_⟩;dsimp only;rw [hgo];refine ⟨all2.append ?_ ?_, List.pairwise_append.2 ⟨d1, hout.dis, fun G hG K hK b hb hk => hGK b ⟨G, hG, hb⟩ ⟨K, hK, hk⟩⟩, ?_, ?_, ?_, (fun p hp => by cases hp),
  ⟨hout.up.os, hout.up.tape, hout.up.output, hout.up.size, fun b hb hn => hout.up.block b hb (fun h => hn ((hown b).2 (.inr h)))⟩, hh.m0, hh.f0⟩
 ·refine k1.st (fun b hb hF => hout.up.block b hb (fun hH => ?_)) (fun b hb hm => ?_) hout.up.size
  ·rcases hF with hF | hF
   ·exact hsep b hF hH
   ·exact hF (.inr ((hown b).2 (.inr hH)))
  ·rcases hm with hm | hm
   ·exact .inl hm
   ·rcases own_append.1 hm with hm | hm
    ·exact .inr ((hown b).2 (.inl hm))
    ·exact .inr ((hown b).2 (.inr (hout.old b hm hb)))
 ·have : ∀ {Ξ : List Xsn} {Gs : List (Nat → Prop)} {M M' : Nat → Prop}, (∀ z ∈ Ξ, ∀ F M M' w, z.p F M w → z.p F M' w) → all2 M w' Ξ Gs → all2 M' w' Ξ Gs := by
   intro Ξ
   induction Ξ with
   | nil =>
    intro Gs M M' _ h;cases Gs with
    | nil => trivial
    | cons _ _ => exact h.elim
   | cons z Ξ ih =>
    intro Gs M M' hz h;cases Gs with
    | nil => exact h.elim
    | cons G Gs => exact ⟨hz z (by simp) _ _ _ _ h.1, ih (fun z' h' => hz z' (by simp [h'])) h.2⟩
  exact this hfr hout.ex
 ·intro b hb;rcases own_append.1 hb with hb | hb
  ·exact hh.dis0 b ((hown b).2 (.inl hb))
  ·exact hout.dis0 b hb
 ·intro b hb;rcases own_append.1 hb with hb | hb
  ·exact Nat.lt_of_lt_of_le (hGlt b hb) hout.up.size
  ·exact hout.lt b hb
 ·intro b hb hl;rcases own_append.1 hb with hb | hb
  ·exact (hown b).2 (.inl hb)
  ·exact (hown b).2 (.inr (hout.old b hb hl))
theorem RowE.last {α : Type} [Rp α] {M : Nat → Prop} {w : World} {l : List α} {x : α} {xs : List Value} (h : RowE M w (l ++ [x]) xs) : ∃ xs0 y, xs = xs0 ++ Rp.enc x y ∧ RowE M w l xs0 ∧ ∀ p ∈ Rp.asn x y, p.p M w := by
 generalize e : l ++ [x] = L at h;cases h with
 | nil => simp at e
 | snoc y h ha =>
  obtain ⟨rfl, e2⟩ := List.append_inj' e rfl;have e3 : x = _ := (List.cons.inj e2).1;subst e3;exact ⟨_, y, rfl, h, ha⟩
end Go.Sx
namespace Go.Proofs.YtbhnolfcdcpbkaaGreatDoor.X
open Go Go.RowKit Go.Proofs Go.Sx
/-! A log whose last patch's row is one's own. -/
structure PatchQ where
 p : Patch
 own : Option (Option Addr × Nat)
instance instRpPatchQ : Rp PatchQ where
 Lay := (Option Addr × Nat) × (Option Addr × Nat)
 size := 4
 enc q y := [.int .i64 q.p.id, .string q.p.note, .slice y.1.1 q.p.deps.length y.1.2, .slice (q.own.getD y.2).1 q.p.l.length (q.own.getD y.2).2]
 len _ _ := rfl
 one _ _ v hv := by
  simp only [List.mem_cons, List.mem_nil_iff, or_false] at hv;rcases hv with rfl | rfl | rfl | rfl <;> rfl
 asn q y := match q.own with
  | none => [slA y.1.1 q.p.deps, slA y.2.1 q.p.l, capA y.2.2 q.p.l.length]
  | some _ => [slA y.1.1 q.p.deps]
def frz (q : Patch) : PatchQ := ⟨q, none⟩
def ownQ (q : Patch) (h : Option Addr × Nat) : PatchQ := ⟨q, some h⟩
theorem frz_rowE {M : Nat → Prop} {w : World} : ∀ {l : List Patch} {xs : List Value}, RowE M w l xs → RowE M w (l.map frz) xs
 | _, _, .nil => .nil
 | _, _, .snoc y h ha => by rw [List.map_append]; exact RowE.snoc (α := PatchQ) (x := frz _) y (frz_rowE h) ha
theorem snoc_cases {α : Type} (l : List α) : l = [] ∨ ∃ m q, l = m ++ [q] := by
 rcases List.eq_nil_or_concat l with h | ⟨m, q, h⟩
 ·exact .inl h
 ·exact .inr ⟨m, q, by rw [h]; simp⟩
theorem unfrz_rowE {M : Nat → Prop} {w : World} : ∀ (n : Nat) {l : List Patch} {xs : List Value}, l.length = n → RowE M w (l.map frz) xs → RowE M w l xs
 | 0, l, xs, hn, h => by
  obtain rfl := List.eq_nil_of_length_eq_zero hn;generalize e : List.map frz [] = L at h;cases h with
  | nil => exact .nil
  | snoc y h ha => simp at e
 | n + 1, l, xs, hn, h => by
  rcases snoc_cases l with rfl | ⟨m, q, rfl⟩
  ·simp at hn
  ·rw [List.map_append] at h;obtain ⟨xs0, y, rfl, h1, h2⟩ := RowE.last h;exact .snoc (x := q) y (unfrz_rowE n (by simpa using hn) h1) h2
theorem row_frz {e : TypeId} {A : Option Addr} {c : Nat} {l : List Patch} {F M : Nat → Prop} {w : World} : (row e A c l).p F M w ↔ (row e A c (l.map frz)).p F M w := by
 constructor
 ·rintro ⟨xs, h1, h2, h3⟩;refine ⟨xs, ?_, ?_, frz_rowE h3⟩
  ·rw [List.length_map]; exact h1
  ·rw [List.length_map]; exact h2
 ·rintro ⟨xs, h1, h2, h3⟩;rw [List.length_map] at h1 h2;exact ⟨xs, h1, h2, unfrz_rowE _ rfl h3⟩
section
variable {ro : Option Nat} {P : Program} {M0 F0 : Nat → Prop} {w0 : World} {n : Nm} {σ : List (Nat × Value)} {Ξ : List Xsn} {Γ : List Asn}
theorem St.unQ {e : TypeId} {A : Option Addr} {c i : Nat} {l : List Patch} {Ξ' : List Xsn} {a : Act} {w : World} (hi : takeAt i Ξ = some (row e A c (l.map frz), Ξ')) (h : St M0 F0 w0 n σ Ξ Γ a w) : St M0 F0 w0 n σ (row e A c l :: Ξ') Γ a w := by
 obtain ⟨hs, Fs, hh⟩ := Sx.St.front hi h;obtain ⟨Fs', h1⟩ := hh.conv fun F M w hp => ⟨F, fun _ h => h, row_frz.2 hp⟩
 exact ⟨hs, Fs', h1⟩
theorem St.slQ {A : Option Addr} {l : List Patch} (hg : In (slA A l) Γ) {a : Act} {w : World} (h : St M0 F0 w0 n σ Ξ Γ a w) : St M0 F0 w0 n σ Ξ (slA A (l.map frz) :: Γ) a w := by
 obtain ⟨hs, Fs, hh⟩ := h;refine ⟨hs, Fs, { hh with ga := fun p hp => ?_ }⟩;rcases List.mem_cons.1 hp with rfl | hp
 ·intro j x hj;rw [List.getElem?_map] at hj;cases e : l[j]? with
  | none => rw [e] at hj; cases hj
  | some q =>
   rw [e] at hj;obtain rfl : frz q = x := by simpa using hj
   exact hh.ga _ hg.mem j q e
 ·exact hh.ga p hp
def fzq (l : List Patch) (h : Option Addr × Nat) : List PatchQ := l.dropLast.map frz ++ (match l.getLast? with | some q => [ownQ q h] | none => [])
def oX (tp : TypeId) (l : List Patch) (h : Option Addr × Nat) : Xsn := match l.getLast? with
 | some q => row tp h.1 h.2 q.l
 | none => bunX []
theorem fzq_snoc (l : List Patch) (q : Patch) (h : Option Addr × Nat) : fzq (l ++ [q]) h = l.map frz ++ [ownQ q h] := by unfold fzq; simp
theorem oX_snoc (tp : TypeId) (l : List Patch) (q : Patch) (h : Option Addr × Nat) : oX tp (l ++ [q]) h = row tp h.1 h.2 q.l := by unfold oX; simp
theorem fzq_len (l : List Patch) (h : Option Addr × Nat) : (fzq l h).length = l.length := by
 rcases snoc_cases l with rfl | ⟨m, q, rfl⟩
 ·rfl
 ·rw [fzq_snoc]; simp
theorem St.fzQ {e tp : TypeId} {A : Option Addr} {c : Nat} {l : List Patch} {h : Option Addr × Nat} {a : Act} {w : World} (hS : St M0 F0 w0 n σ (row e A c (fzq l h) :: oX tp l h :: Ξ) Γ a w) : St M0 F0 w0 n σ (row e A c (l.map frz) :: Ξ) Γ a w := by
 rcases snoc_cases l with rfl | ⟨m, q, rfl⟩
 ·obtain ⟨hs, Fs, hh⟩ := hS
  match Fs, hh with
  | [], hh => exact hh.ex.elim
  | [_], hh => exact hh.ex.2.elim
  | F :: G :: Fs, hh =>
   obtain ⟨d0, hd⟩ := List.pairwise_cons.1 hh.dis;obtain ⟨d1, d2⟩ := List.pairwise_cons.1 hd;obtain ⟨Gs, g1, g2, g3⟩ := hh.ex.2.1;have hG : ∀ b, ¬ G b := fun b hb => by
    cases Gs with
    | nil => exact own_nil b ((g3 b).1 hb)
    | cons _ _ => exact g1.elim
   refine ⟨hs, F :: Fs, hh.repart (fun b => ?_) ⟨hh.ex.1, hh.ex.2.2⟩ (List.pairwise_cons.2 ⟨fun K hK => d0 K (by simp [hK]), d2⟩)⟩;rw [own_cons, own_cons, own_cons];exact ⟨fun h => h.imp id .inr, fun h => h.imp id fun h => h.elim (fun h => absurd h (hG b)) id⟩
 ·rw [fzq_snoc, oX_snoc] at hS;have h1 := freezeN (i := 1) rfl hS;obtain ⟨hs, Fs, hh⟩ := h1;have g1 := hh.ga (slA h.1 q.l) (by simp);have g2 := hh.ga (capA h.2 q.l.length) (by simp);obtain ⟨Fs', h2⟩ := hh.conv1 (x' := row e A c ((m ++ [q]).map frz)) (fun F hp => ⟨F, fun _ h => h, by
   obtain ⟨xs, k1, k2, k3⟩ := hp;obtain ⟨xs0, y, rfl, k4, k5⟩ := RowE.last k3;have el : (m.map frz ++ [ownQ q h]).length = ((m ++ [q]).map frz).length := by simp
   refine ⟨_, by rw [← el]; exact k1, by rw [← el]; exact k2, ?_⟩;rw [List.map_append];refine RowE.snoc (α := PatchQ) (x := frz q) (y.1, h) k4 (fun p hp => ?_);have hp' : p = slA y.1.1 q.deps ∨ p = slA h.1 q.l ∨ p = capA h.2 q.l.length := by simpa [Rp.asn, frz] using hp
   rcases hp' with rfl | rfl | rfl
   ·exact k5 _ (by simp [Rp.asn, ownQ])
   ·exact g1
   ·exact g2⟩)
  exact wk0 (subσ.refl _) (Sx.Sub.mk fun p hp => by simp [hp]) a w ⟨hs, Fs', h2⟩
theorem St.fzL {e tp : TypeId} {A : Option Addr} {c : Nat} {l : List Patch} {h : Option Addr × Nat} {a : Act} {w : World} (hS : St M0 F0 w0 n σ (row e A c (fzq l h) :: oX tp l h :: Ξ) Γ a w) : St M0 F0 w0 n σ (row e A c l :: Ξ) Γ a w := St.unQ (i := 0) rfl (St.fzQ hS)
end
end Go.Proofs.YtbhnolfcdcpbkaaGreatDoor.X
end
section
namespace Go.Proofs.YtbhnolfcdcpbkaaGreatDoor.X
set_option maxRecDepth 100000
open Go Go.RowKit Go.Proofs Go.Sx
open Tryz
attribute [local irreducible] slA isA box row TrL TrC TrN TrA Pu OpR
set_option maxHeartbeats 8000000
theorem c_withL (p : Patch) (y : Rp.Lay Patch) (hp : p.fit) (l : List Prim) (A : Option Addr) (c : Nat) (hl : l.length ≤ 2000000) (hf : ∀ x ∈ l, x.fit) : Con Tryz.prog 117 [sv p y, .slice A l.length c] [] [slA y.1.1 p.deps, slA y.2.1 p.l, capA y.2.2 p.l.length, slA A l] (Rp.Lay Patch) (fun y' => sv { p with l := l } y') (fun y' => [row 103 y'.2.1 y'.2.2 l]) (fun y' => [slA y'.1.1 p.deps]) := by
 refine con func117 rfl ntmps117 rfl ?_;intro M0 F0 w0;refine k_ 2 ?_;refine ls (o_box rfl rfl rfl) ?_;refine le ?_; intro b2;refine ls (o_alloc zeroValue63 rfl rfl) ?_;refine le ?_; intro b4;refine k_ 3 ?_;have hdl := hp.dl;refine k_ 4 ?_;refine ls (o_mk (0 : Int) () p.deps.length underlying61 inf3 rfl (by decide) (fun _ _ p hp => by cases hp) rfl rfl rfl rfl (by omega) (by omega) rfl) ?_;refine le ?_; intro b11;refine k_ 8 ?_;refine ls (o_cpy underlying61 Ψ rfl rfl (by simp) Θ Θ Ω rfl) ?_;rw [List.length_replicate];refine k_ 3 ?_;refine cmono (fun a w h => Go.Sx.freeze (i := 0) rfl h) ?_;refine cmono (fun a w h => nilRow (α := Prim) 103 h) ?_;refine k_ 17 ?_;refine cl (ι := {q : Nat × Option Addr × Nat // q.1 ≤ l.length}) (fun i => St M0 F0 w0 34 [(2, pT b2), (4, pT b4), (19, .slice A l.length c), (20, .int .i64 (l.length : Int)), (21, .int .i64 (i.1.1 : Int))] [row 103 (i.1.2.1) (i.1.2.2) (l.take i.1.1), box b2 63 [.int .i64 p.id, .string p.note, .slice (some ⟨b11, 0, none⟩) p.deps.length p.deps.length, .slice i.1.2.1 (l.take i.1.1).length i.1.2.2], box b4 63 (Rp.enc Patch.zero ((none, 0), (none, 0)))] [slA (some ⟨b11, 0, none⟩) p.deps, slA A l]) (fun i => l.length - i.1.1) ⟨(0, none, 0), Nat.zero_le _⟩ (wK [0, 1, 0]) ?_;rintro ⟨⟨k, A2, c2⟩, hk⟩;refine cmono (S' := St M0 F0 w0 34 [(2, pT b2), (4, pT b4), (19, .slice A l.length c), (20, .int .i64 (l.length : Int)), (21, .int .i64 (k : Int))] [row 103 (A2) (c2) (l.take k), box b2 63 [.int .i64 p.id, .string p.note, .slice (some ⟨b11, 0, none⟩) p.deps.length p.deps.length, .slice A2 (l.take k).length c2], box b4 63 (Rp.enc Patch.zero ((none, 0), (none, 0)))] [slA (some ⟨b11, 0, none⟩) p.deps, slA A l]) Ħ ?_;refine k_ 6 ?_;refine cc rfl ?_ ?_
 ·intro h22;dsimp only at hk;(try simp only [nrmZ] at h22);have hk1 : k < l.length := (by omega);refine k_ 5 ?_;refine elC Θ k (List.getElem?_eq_getElem (l := l) hk1) ?_; rintro zbp zop zyp hAp;refine cr ?_;refine ls (op (p_ia k hAp hk1 rfl underlying40 sizeOf103 rfl rfl) rfl) ?_;refine ls (o_ldj isAgg103 sizeOf103 rfl Θ 0 rfl Δ rfl) ?_;refine ls (o_alloc zeroValue103 rfl rfl) ?_;refine le ?_; intro b7;refine k_ 3 ?_;refine cd [3, 4, 5, 7] [(1, b2, 3, _), (2, b7, 0, _)] TryzX.mixed (tB 1 (tB 6 TOk.d)) ?_;refine u_ 0 3 ?_;refine df 3 Ψ ?_;refine doR rfl (o_call (is := []) call110 (c_primClone l[k] zyp (hf _ (List.getElem_mem hk1))) rfl rfl Ω rfl) (TOk.t (isBoxE fun _ => isBoxS Θ (k := 1) Δ) (TOk.x Ψ TOk.d)) ?_;refine ea ?_; intro y28;refine df 4 Ψ ?_;refine doR rfl (o_bsl [l[k]] underlying40 sizeOf103 zeroValue103 rfl (Enum.t Enum.d) (RV.t y28 rfl Ω RV.d) rfl (by decide) (by decide) rfl) (TOk.t (isBoxE fun _ => isBoxS Θ (k := 1) Δ) (TOk.x Ψ TOk.d)) ?_;refine ea ?_; intro b29;refine amono (fun a w h => Go.Sx.freeze (i := 0) rfl h) ?_;refine df 5 Ψ ?_;refine doR rfl (o_app (is := [1]) underlying40 inf103 rfl (by decide) (by decide) rfl rfl (by rw [List.length_take]; simp only [List.length_cons, List.length_nil]; omega) (fun h => by cases h) rfl Ω rfl) tX ?_;refine ea ?_; rintro ⟨A3, c3⟩;rw [← List.take_succ_eq_append_getElem hk1];refine u_ 6 1 ?_;refine df 7 Ψ ?_;refine doR rfl (o_st rfl sizeOf40 rfl rfl rfl rfl rfl Θ Θ Θ) tX ?_;refine dn Ψ ?_;refine k_ 6 ?_;refine nnext ⟨(k + 1, A3, c3), hk1⟩ (by dsimp only; omega) (wK [0, 1, 1])
 ·intro h22;dsimp only at hk;(try simp only [nrmZ] at h22);obtain rfl : k = l.length := (by omega);rw [List.take_length];refine k_ 7 ?_;refine ls (o_ldw isAgg63 sizeOf63 rfl Θ (by rfl) rfl) ?_;refine k_ 5 ?_;refine rret (is := [0]) ((some ⟨b11, 0, none⟩, p.deps.length), (A2, c2)) (Or.inl rfl) (Res.c rfl isAgg63 sizeOf63 Θ (by rfl) Res.d) (rfl) rfl Ω
theorem c_nCloneL (p : Patch) (y : Rp.Lay Patch) (hp : p.fit) : Con Tryz.prog 66 [sv p y] [] [slA y.1.1 p.deps, slA y.2.1 p.l, capA y.2.2 p.l.length] (Rp.Lay Patch) (fun y' => sv p y') (fun y' => [row 103 y'.2.1 y'.2.2 p.l]) (fun y' => [slA y'.1.1 p.deps]) := by
 refine con func66 rfl ntmps66 rfl ?_;intro M0 F0 w0;refine k_ 2 ?_;refine ls (o_box rfl rfl rfl) ?_;refine le ?_; intro b1;refine ls (o_alloc zeroValue63 rfl rfl) ?_;refine le ?_; intro b2;refine k_ 4 ?_;refine ls (o_ldw isAgg63 sizeOf63 rfl Θ (by rfl) rfl) ?_;refine k_ 2 ?_;refine lC [] call117 (c_withL p y hp p.l y.2.1 y.2.2 hp.ll hp.lf) ?_; intro y6;refine k_ 5 ?_;refine rret (is := [0]) y6 (Or.inl rfl) (Res.c rfl isAgg63 sizeOf63 Θ (by rfl) Res.d) (rfl) rfl Ω
theorem c_nSwapS (p q : Patch) (yp yq : Rp.Lay Patch) (hp : p.fit) (hq : q.fit) : Con Tryz.prog 168 [sv p yp, sv q yq] [] [slA yp.1.1 p.deps, slA yp.2.1 p.l, capA yp.2.2 p.l.length, slA yq.1.1 q.deps, slA yq.2.1 q.l, capA yq.2.2 q.l.length] (PTwo (pswap p q)) (fun x => x.v) (fun x => [row 103 x.1.2.2.2.1 x.1.2.2.2.2 x.1.1.2.1.l]) (fun x => [slA x.1.2.1.1.1 x.1.1.1.deps, slA x.1.2.1.2.1 x.1.1.1.l, capA x.1.2.1.2.2 x.1.1.1.l.length, slA x.1.2.2.1.1 x.1.1.2.1.deps]) := by
 refine con func168 rfl ntmps168 rfl ?_;intro M0 F0 w0;refine k_ 2 ?_;refine ls (o_box rfl rfl rfl) ?_;refine le ?_; intro b2;refine ls (o_box rfl rfl rfl) ?_;refine le ?_; intro b3;refine ls (o_alloc zeroValue63 rfl rfl) ?_;refine le ?_; intro b4;refine ls (o_alloc zeroValue63 rfl rfl) ?_;refine le ?_; intro b5;refine k_ 6 ?_;refine ls (o_ldw isAgg63 sizeOf63 rfl Θ (by rfl) rfl) ?_;refine lC [] call105 (c_nRight p yp hp) ?_; intro x10;refine k_ 2 ?_;refine orX 4 12 16 rfl (sL [0, 1, 2, 3, 4, 5, 6]) ?_ ?_
 ·intro h12;refine k_ 4 ?_;refine ln (nmid (wk0 Φ Ω))
 apply exI
 ·intro h12;refine lwant rfl rfl rfl rfl (o_ldw isAgg63 sizeOf63 rfl Θ (by rfl) rfl) ?_;refine lwant rfl rfl rfl rfl (o_call (is := []) call105 (c_nRight q yq hq) rfl rfl Ω rfl) ?_;refine le ?_; intro x14;refine k_ 2 ?_;refine ln (nmid (wk0 Φ Ω))
 ·
  refine k_ 1 ?_;refine orX 6 17 23 rfl (sL [0, 1, 2, 3, 4, 5, 6]) ?_ ?_
  ·intro h17;refine k_ 6 ?_;refine ln (nmid (wk0 Φ Ω))
  apply exI
  ·intro h17;refine k_ 6 ?_;refine ln (nmid (wk0 Φ Ω))
  ·
   refine k_ 1 ?_;refine orX 6 24 30 rfl (sL [0, 1, 2, 3, 4, 5, 6]) ?_ ?_
   ·intro h24;refine k_ 6 ?_;refine ln (nmid (wk0 Φ Ω))
   apply exI
   ·intro h24;refine k_ 4 ?_;refine lwant rfl rfl rfl rfl (o_call (is := []) call218 (c_ContainsI q.deps _ _ hq.dl p.id) rfl rfl Ω rfl) ?_;refine le ?_; intro x29;refine k_ 1 ?_;refine ln (nmid (wk0 Φ Ω))
   ·
    refine k_ 1 ?_;refine orX 6 31 37 rfl (sL [0, 1, 2, 3, 4, 5, 6]) ?_ ?_
    ·intro h31;refine k_ 6 ?_;refine ln (nmid (wk0 Φ Ω))
    apply exI
    ·intro h31;refine k_ 4 ?_;refine lwant rfl rfl rfl rfl (o_call (is := []) call218 (c_ContainsI p.deps _ _ hp.dl q.id) rfl rfl Ω rfl) ?_;refine le ?_; intro x36;refine k_ 1 ?_;refine ln (nmid (wk0 Φ Ω))
    ·
     refine k_ 2 ?_;refine cc rfl ?_ ?_
     ·intro h37;(try simp only [nrmZ] at h37);refine cs ?_;refine cmono (fun a w h => nilC (α := Prim) h) ?_;refine cmono (fun a w h => nilSl (α := Int) h) ?_;refine cmono (fun a w h => nilRow (α := Prim) 103 h) ?_;refine k_ 10 ?_;refine rret (is := [0]) ⟨((Patch.zero, Patch.zero, false), (((none, 0), (none, 0)), ((none, 0), (none, 0)))), by rw [may_t h37]⟩ (Or.inl rfl) (Res.c rfl isAgg63 sizeOf63 Θ (by rfl) (Res.c rfl isAgg63 sizeOf63 Θ (by rfl) (Res.t rfl Res.d))) (rfl) rfl Ω
     ·intro h37;(try simp only [nrmZ] at h37);refine k_ 8 ?_;refine lC [] call170 (c_seqSwap p.l q.l _ _ _ _ hp.ll hq.ll hp.lf hq.lf) ?_; rintro ⟨⟨⟨f, s, b3⟩, ⟨ya, yb⟩⟩, hr⟩;dsimp only at hr;refine k_ 16 ?_;refine cc rfl ?_ ?_
      ·intro h50;obtain rfl : false = b3 := (by cases b3 <;> first | rfl | (simp at h50))
       refine cs ?_;refine cmono (fun a w h => nilC (α := Prim) h) ?_;refine cmono (fun a w h => nilSl (α := Int) h) ?_;refine cmono (fun a w h => nilRow (α := Prim) 103 h) ?_;refine k_ 10 ?_;refine rret (is := [0]) ⟨((Patch.zero, Patch.zero, false), (((none, 0), (none, 0)), ((none, 0), (none, 0)))), by rw [pswap_f hr]⟩ (Or.inl rfl) (Res.c rfl isAgg63 sizeOf63 Θ (by rfl) (Res.c rfl isAgg63 sizeOf63 Θ (by rfl) (Res.t rfl Res.d))) (rfl) rfl Ω
      ·intro h50;obtain rfl : true = b3 := (by cases b3 <;> first | rfl | (simp at h50))
       have hok := swT_ok hr hp.lf hq.lf;have hfl := hok.1; have hsl := hok.2.1; have hpl := hp.ll; have hql := hq.ll;refine k_ 3 ?_;refine cd [2, 5, 6, 7] [(0, b3, 0, _), (3, b2, 0, _)] TryzX.mixed (tB 4 (tB 4 TOk.d)) ?_;refine u_ 0 2 ?_;refine u_ 3 2 ?_;refine df 2 Ψ ?_;refine doR rfl (o_call (is := []) call117 (c_with q yq hq f ya.1 ya.2 (by omega) hok.2.2.1) rfl rfl Ω rfl) (TOk.x Ψ (TOk.t (isBoxE fun _ => isBoxS Θ (k := 4) Δ) TOk.d)) ?_;refine ea ?_; intro y55;refine df 5 Ψ ?_;refine doR rfl (o_call (is := []) call117 (c_withL p yp hp s yb.1 yb.2 (by omega) hok.2.2.2) rfl rfl Ω rfl) tX ?_;refine ea ?_; intro y58;refine df 6 Ψ ?_;refine doR rfl (o_st rfl sizeOf63 rfl rfl rfl rfl rfl Θ Θ Θ) tX ?_;refine df 7 Ψ ?_;refine doR rfl (o_st rfl sizeOf63 rfl rfl rfl rfl rfl Θ Θ Θ) tX ?_;refine u_ 8 1 ?_;refine dn Ψ ?_;refine k_ 3 ?_;refine rret (is := [0]) ⟨(({ q with l := f }, { p with l := s }, true), (y55, y58)), by rw [pswap_t (may_f h37) hr]⟩ (Or.inl rfl) (Res.c rfl isAgg63 sizeOf63 Θ (by rfl) (Res.c rfl isAgg63 sizeOf63 Θ (by rfl) (Res.t rfl Res.d))) (rfl) rfl Ω
theorem c_BackwardW1 (l : List Prim) (A : Option Addr) (c : Nat) (hl : l.length ≤ 2000000) (B : Nat) : Iter Tryz.prog 201 [pT B] (fun x : {x : Nat × Rp.Lay Prim // x.1 < l.length} => [.int .i64 (x.1.1 : Int), sv (l[x.1.1]'x.2) x.1.2]) (fun x => Rp.asn (l[x.1.1]'x.2) x.1.2) (fun pre x => x.1.1 + pre.length + 1 = l.length) (fun xs => xs.length = l.length) [box B 40 [.slice A l.length c], row 103 A c l] [] := by
 intro lp J Jx hY;refine con func201 rfl ntmps201 rfl ?_;intro M0 F0 w0;refine k_ 9 ?_;refine cl (ι := {q : List {x : Nat × Rp.Lay Prim // x.1 < l.length} × Int // q.1.length ≤ l.length ∧ q.2 = (l.length : Int) - 1 - (q.1.length : Int)}) (fun i => St M0 F0 w0 19 [(0, .func (.yield lp) #[] #[]), (1, pT B), (3, .int .i64 i.1.2)] [J i.1.1, box B 40 [.slice A l.length c], row 103 A c l] []) (fun i => l.length - (i.1.1).length) ⟨([], (l.length : Int) - 1), Nat.zero_le _, by simp⟩ (wk0 Φ Ω) ?_;rintro ⟨⟨pre, z⟩, hpre, hz⟩;refine cmono (S' := St M0 F0 w0 19 [(0, .func (.yield lp) #[] #[]), (1, pT B), (3, .int .i64 z)] [J pre, box B 40 [.slice A l.length c], row 103 A c l] []) Ħ ?_;refine k_ 7 ?_;refine cc rfl ?_ ?_
 ·intro h8;dsimp only at hpre hz;(try simp only [nrmZ] at h8);have hk1 : l.length - 1 - pre.length < l.length := (by omega);refine k_ 5 ?_;refine rowC (α := Prim) (A := A) (l := l) Θ (List.ne_nil_of_length_pos (by omega)) ?_;rintro g0 rfl;refine k_ 5 ?_;refine ls (op (p_ia (l.length - 1 - pre.length) rfl hk1 (by omega) underlying40 sizeOf103 rfl rfl) rfl) ?_;refine ls (o_ldrow isAgg103 sizeOf103 rfl Θ (List.getElem?_eq_getElem hk1) rfl) ?_;refine le ?_; intro zyp;refine ls (o_yield (i := 0) rfl (by have := hY pre ⟨(l.length - 1 - pre.length, zyp), hk1⟩ (by dsimp only; omega); dsimp only at this; rw [show ((l.length - 1 - pre.length : Nat) : Int) = z by omega] at this; exact this) rfl rfl Ω rfl) ?_;refine le ?_; intro bb;refine k_ 3 ?_;refine cc rfl ?_ ?_
  ·intro h18;obtain rfl : false = bb := (by cases bb <;> first | rfl | (simp at h18))
   refine k_ 2 ?_;exact rR [0, 0, 0] ⟨none, fun _ h => by cases h⟩
  ·intro h18;obtain rfl : true = bb := (by cases bb <;> first | rfl | (simp at h18))
   refine k_ 8 ?_;refine nnext ⟨(pre ++ [⟨(l.length - 1 - pre.length, zyp), hk1⟩], z - 1), by simp; omega, by simp; omega⟩ (by simp; omega) (wK [0, 0, 0])
 ·intro h8;dsimp only at hpre hz;(try simp only [nrmZ] at h8);refine k_ 4 ?_;exact rR [0, 0, 0] ⟨some pre, fun xs h => by cases h; omega⟩
theorem c_seqInvertW (l : List Prim) (A : Option Addr) (c : Nat) (hl : l.length ≤ 2000000) (hf : ∀ x ∈ l, x.fit) : Con Tryz.prog 91 [.slice A l.length c] [row 103 A c l] [] (Option Addr × Nat) (fun y => .slice y.1 (invL l).length y.2) (fun y => [row 103 y.1 y.2 (invL l), row 103 A c l]) (fun _ => []) := by
 refine con func91 rfl ntmps91 rfl ?_;intro M0 F0 w0;refine k_ 7 ?_;refine ls (o_alloc zeroValue40 rfl rfl) ?_;refine le ?_; intro b3;refine k_ 4 ?_;refine cmono (fun a w h => nilRow (α := Prim) 103 h) ?_;refine k_ 2 ?_;refine lC [] call147 (c_Backward l A c) ?_; intro b7;refine k_ 3 ?_;refine crng (ι := fun pre => Option Addr × Nat) rfl call201 (c_BackwardW1 l A c hl b7) (fun _ => rfl) rfl (fun pre i => [box b3 40 [.slice i.1 (invP l pre.length).length i.2], row 103 i.1 i.2 (invP l pre.length)]) (fun pre i => []) ((none, 0)) (Y := Empty) (fun _ => []) (fun _ => []) (is := [2, 1, 0, 0]) rfl Ω Ω ?_ ?_ ?_
 ·
  rintro M0 F0 w0 lp κ pre ⟨⟨k, yk⟩, hk⟩ hx ⟨A2, c2⟩;dsimp only at hk hx ⊢;have hfk := hf _ (List.getElem_mem hk);have hpl := invP_len l (show pre.length ≤ l.length by omega);refine cmono (S' := St M0 F0 w0 ⟨16, []⟩ [(3, pT b3), (9, sv l[k] yk)] [lrec lp κ .ready none, box b3 40 [.slice A2 (invP l pre.length).length c2], row 103 A2 c2 (invP l pre.length)] [slA yk.1.1 l[k].old, slA yk.2.1 l[k].new]) (wk0 Φ Ω) ?_;refine cr ?_;refine ls (o_alloc zeroValue103 rfl rfl) ?_;refine le ?_; intro b5;refine k_ 2 ?_;refine nbegin (i := 1) rfl ?_;refine cb ?_;refine cd [2, 3, 4, 5] [(0, b3, 0, _), (1, b5, 0, _)] TryzX.mixed (tB 1 (tB 6 TOk.d)) ?_;refine u_ 0 2 ?_;refine df 2 Ψ ?_;refine doR rfl (o_call (is := []) call148 (c_primInvert l[k] yk hfk) rfl rfl Ω rfl) (TOk.t (isBoxE fun _ => isBoxS Θ (k := 1) Δ) (TOk.x Ψ TOk.d)) ?_;refine ea ?_; rintro ⟨⟨q1, z1⟩, hz1⟩;obtain rfl : q1 = l[k].flip := hz1;refine df 3 Ψ ?_;refine doR rfl (o_bsl [l[k].flip] underlying40 sizeOf103 zeroValue103 rfl (Enum.t Enum.d) (RV.t z1 rfl Ω RV.d) rfl (by decide) (by decide) rfl) (TOk.t (isBoxE fun _ => isBoxS Θ (k := 1) Δ) (TOk.x Ψ TOk.d)) ?_;refine ea ?_; intro b13;refine amono (fun a w h => Go.Sx.freeze (i := 0) rfl h) ?_;refine df 4 Ψ ?_;refine doR rfl (o_app (is := [3]) underlying40 inf103 rfl (by decide) (by decide) rfl rfl (by rw [hpl]; simp only [List.length_cons, List.length_nil]; omega) (fun h => by cases h) rfl Ω rfl) tX ?_;refine ea ?_; rintro ⟨A3, c3⟩;refine df 5 Ψ ?_;refine doR rfl (o_st rfl sizeOf40 rfl rfl rfl rfl rfl Θ Θ Θ) tX ?_;refine dn Ψ ?_;refine k_ 1 ?_;rw [← invP_step hx];exact nround (A3, c3) (is := [1, 2, 0]) (by rw [List.length_append]; rfl) Ω
 ·
  rintro D xs hC ⟨A2, c2⟩;rw [hC, invP_all];refine k_ 10 ?_;refine rretm (Dfr.c (i := 4) rfl Dfr.d) (is := [1, 2]) (A2, c2) (Or.inl rfl) (Res.t rfl Res.d) (rfl) rfl Ω
 ·
  intro D y;exact y.elim
theorem c_logAllQ (l : List Patch) (A : Option Addr) (c : Nat) (hl : l.length ≤ 2000000) (hf : ∀ q ∈ l, q.fit) (pl p : Nat) : Con Tryz.prog 23 [pT pl] [box pl 124 [.slice A l.length c, pT p], row 63 A c l] [] ((Option Addr × Nat) × (Option Addr × Nat)) (fun y => .slice y.1.1 l.length y.1.2) (fun y => [row 63 y.1.1 y.1.2 (fzq l y.2), oX 103 (l) (y.2), box pl 124 [.slice A l.length c, pT p], row 63 A c l]) (fun _ => []) := by
 refine con func23 rfl ntmps23 rfl ?_;intro M0 F0 w0;refine k_ 6 ?_;refine cmono (fun a w h => nilRow (α := PatchQ) 63 h) ?_;refine cmono (fun a w h => St.nobun h) ?_;refine k_ 8 ?_;refine ls (op (p_nilck rfl) rfl) ?_;refine k_ 7 ?_;refine cl (ι := {q : Nat × (Option Addr × Nat) × (Option Addr × Nat) // q.1 ≤ l.length}) (fun i => St M0 F0 w0 22 [(3, .slice i.1.2.1.1 (fzq (l.take i.1.1) (i.1.2.2)).length i.1.2.1.2), (9, .slice A l.length c), (10, .int .i64 (l.length : Int)), (11, .int .i64 ((i.1.1 : Nat) : Int))] [row 63 (i.1.2.1.1) (i.1.2.1.2) (fzq (l.take i.1.1) (i.1.2.2)), oX 103 (l.take i.1.1) (i.1.2.2), box pl 124 [.slice A l.length c, pT p], row 63 A c l] []) (fun i => l.length - i.1.1) ⟨(0, (none, 0), (none, 0)), Nat.zero_le _⟩ (wK [1, 0, 0, 0]) ?_;rintro ⟨⟨k, ⟨A3, c3⟩, h3⟩, hk⟩;refine cmono (S' := St M0 F0 w0 22 [(3, .slice A3 (fzq (l.take k) (h3)).length c3), (9, .slice A l.length c), (10, .int .i64 (l.length : Int)), (11, .int .i64 ((k : Nat) : Int))] [row 63 (A3) (c3) (fzq (l.take k) (h3)), oX 103 (l.take k) (h3), box pl 124 [.slice A l.length c, pT p], row 63 A c l] []) Ħ ?_;refine k_ 6 ?_;refine cc rfl ?_ ?_
 ·intro h12;dsimp only at hk;(try simp only [nrmZ] at h12);have hk1 : k < l.length := (by omega);refine k_ 5 ?_;refine cmono (fun a w h => St.fzQ h) ?_;refine rowC (α := Patch) (A := A) (l := l) Θ (List.ne_nil_of_length_pos (by omega)) ?_;rintro g0 rfl;refine cr ?_;refine ls (op (p_ia k rfl hk1 rfl underlying38 sizeOf63 rfl rfl) rfl) ?_;refine ls (o_ldrow isAgg63 sizeOf63 rfl Θ (List.getElem?_eq_getElem hk1) rfl) ?_;refine le ?_; intro zyp;refine ls (o_alloc zeroValue63 rfl rfl) ?_;refine le ?_; intro b5;refine k_ 5 ?_;refine fixL (slen (m' := ((l.take k).map frz).length) (by rw [fzq_len, List.length_map])) ?_;refine ls (o_ldw isAgg63 sizeOf63 rfl Θ (by rfl) rfl) ?_;refine lC [] call66 (c_nCloneL l[k] zyp (hf _ (List.getElem_mem hk1))) ?_; intro y17;refine ls (o_bsl [ownQ l[k] y17.2] underlying38 sizeOf63 zeroValue63 rfl (Enum.t Enum.d) (RV.t y17 rfl Ω RV.d) rfl (by decide) (by decide) rfl) ?_;refine le ?_; intro b18;refine lmono (fun a w h => Go.Sx.freeze (i := 0) rfl h) ?_;refine ls (o_appX (i := 2) underlying38 inf63 rfl (by decide) (by decide) rfl rfl (by simp only [List.length_map, List.length_take, List.length_cons, List.length_nil]; omega) rfl Ω rfl) ?_;refine le ?_; rintro ⟨A19, c19⟩;rw [← fzq_snoc, ← List.take_succ_eq_append_getElem hk1];refine k_ 8 ?_;refine nnext ⟨(k + 1, (A19, c19), y17.2), hk1⟩ (by dsimp only; omega) (fun a w h => by dsimp only; rw [show oX 103 (l.take (k + 1)) y17.2 = row 103 y17.2.1 y17.2.2 l[k].l by rw [List.take_succ_eq_append_getElem hk1, oX_snoc]]; exact wL [0, 0, 1, 1] h)
 ·intro h12;dsimp only at hk;(try simp only [nrmZ] at h12);obtain rfl : k = l.length := (by omega);rw [List.take_length];refine k_ 13 ?_;refine rret (is := [0, 0, 0, 0]) ((A3, c3), h3) (Or.inl rfl) (Res.t rfl Res.d) ?_ rfl Ω;exact slen (fzq_len _ _)
theorem c_logCopyQ (l : List Patch) (A : Option Addr) (c : Nat) (hl : l.length ≤ 2000000) (hf : ∀ q ∈ l, q.fit) (pl p b : Nat) (T : List File) : Con Tryz.prog 65 [pT pl] [box pl 124 [.slice A l.length c, pT p], row 63 A c l, box p 139 [.map (some b)], tr b T] [] (((Option Addr × Nat) × (Option Addr × Nat)) × (Nat × Nat × Nat)) (fun y => pT y.2.1) (fun y => [box y.2.1 124 [.slice y.1.1.1 l.length y.1.1.2, pT y.2.2.1], row 63 y.1.1.1 y.1.1.2 (fzq l y.1.2), oX 103 (l) (y.1.2), box y.2.2.1 139 [.map (some y.2.2.2)], tr y.2.2.2 T, box pl 124 [.slice A l.length c, pT p], row 63 A c l, box p 139 [.map (some b)], tr b T]) (fun _ => []) := by
 refine con func65 rfl ntmps65 rfl ?_;intro M0 F0 w0;refine k_ 8 ?_;refine lC [0, 0] call23 (c_logAllQ l A c hl hf pl p) ?_; rintro ⟨⟨A4, c4⟩, h4⟩;refine k_ 1 ?_;refine lC [2, 3, 3] call88 (c_logTree pl p b T (.slice A l.length c)) ?_; rintro ⟨p6, b6⟩;refine k_ 1 ?_;refine ls (o_box rfl rfl rfl) ?_;refine le ?_; intro b8;refine k_ 5 ?_;exact rR [0, 5, 5, 0, 0, 0, 2, 0, 0] (((A4, c4), h4), (b8, p6, b6))
theorem flq_snoc {α : Type} {ls : List (List α)} {k : Nat} (h : k < ls.length) : (ls.take (k + 1)).flatten = (ls.take k).flatten ++ ls[k] := by
 rw [List.take_succ_eq_append_getElem h, List.flatten_append]; simp
theorem flq_take {α : Type} {ls : List (List α)} {k : Nat} (h : k < ls.length) : (ls.take (k + 1)).flatten.length = (ls.take k).flatten.length + ls[k].length := by
 rw [flq_snoc h, List.length_append]
theorem flq_le {α : Type} (ls : List (List α)) (k : Nat) : (ls.take k).flatten.length ≤ ls.flatten.length := by
 conv => rhs; rw [← List.take_append_drop k ls, List.flatten_append, List.length_append]
 omega
theorem fzL_Z {e tp : TypeId} {A : Option Addr} {c : Nat} {l : List Patch} {h : Option Addr × Nat} (M0 F0 : Nat → Prop) (w0 : World) (a : Act) (w : World) (hS : St M0 F0 w0 ⟨0, []⟩ [] [row e A c (fzq l h), oX tp l h] [] a w) : St M0 F0 w0 ⟨0, []⟩ [] [] [slA A l] a w := Sx.freeze (i := 0) rfl (St.fzL hS)
theorem emk {k n : Nat} (h : k < n) : k + 1 = n ∨ k + 1 < n := by omega
theorem fzq_last {l : List Patch} {k : Nat} (hl : k + 1 = l.length) (hk : k < l.length) (h : Option Addr × Nat) : (fzq l h)[k]? = some (ownQ (l[k]'hk) h) := by
 rcases snoc_cases l with rfl | ⟨m, q, rfl⟩
 ·simp at hk
 ·have e : k = m.length := by simp at hl; omega
  subst e;rw [fzq_snoc];simp
theorem oX_last {tp : TypeId} {l : List Patch} {k : Nat} {h : Option Addr × Nat} (hl : k + 1 = l.length) (hk : k < l.length) : oX tp l h = row tp h.1 h.2 (l[k]'hk).l := by
 rcases snoc_cases l with rfl | ⟨m, q, rfl⟩
 ·simp at hk
 ·have e : k = m.length := by simp at hl; omega
  subst e;rw [oX_snoc];simp
theorem fzq_take {l : List Patch} {k : Nat} (hl : k + 1 = l.length) (h : Option Addr × Nat) : (fzq l h).take k = (l.take k).map frz := by
 rcases snoc_cases l with rfl | ⟨m, q, rfl⟩
 ·simp at hl
 ·have e : k = m.length := by simp at hl; omega
  subst e;rw [fzq_snoc];simp
theorem fl_last {l : List Patch} {k : Nat} {h : Option Addr × Nat} (hl : k + 1 = l.length) (hk : k < l.length) : [(l.take k).map frz, [], [ownQ (l[k]'hk) h]].flatten = fzq l h := by
 rcases snoc_cases l with rfl | ⟨m, q, rfl⟩
 ·simp at hk
 ·have e : k = m.length := by simp at hl; omega
  subst e;rw [fzq_snoc];simp
theorem fl_more {a s : List Patch} {b : Patch} {h : Option Addr × Nat} : [a.map frz, s.map frz, [ownQ b h]].flatten = fzq (a ++ s ++ [b]) h := by
 rw [fzq_snoc]; simp
theorem lastP_last {l : List Patch} {v : Int} {k : Nat} (hl : k + 1 = l.length) (hk : k < l.length) (h : atP l v = (k : Int)) : lastP l v = (l, 0) := by
 rw [lastP_some (s := []) (b := l[k]) hk h (by rw [List.drop_of_length_le (by omega)]; rfl)]
 congr 1
 rw [List.append_nil, ← List.take_succ_eq_append_getElem hk, List.take_of_length_le (by omega)]
def lX (tp : TypeId) (z : Bool) (b : Patch) (y : Rp.Lay Patch) : Xsn := match z with
 | true => bunX []
 | false => row tp y.2.1 y.2.2 b.l
theorem lX_at {tp : TypeId} {z : Bool} {b : Patch} {y : Rp.Lay Patch} (h : z = false) : lX tp z b y = row tp y.2.1 y.2.2 b.l := by rw [h]; rfl
theorem lX_own {tp : TypeId} {k : Nat} {b : Patch} {y : Rp.Lay Patch} : lX tp (decide (k + 1 = 0)) b y = row tp y.2.1 y.2.2 b.l := lX_at (decide_eq_false (by omega))
theorem St.lXfz {M0 F0 : Nat → Prop} {w0 : World} {n : Nm} {σ : List (Nat × Value)} {Ξ Ξ' : List Xsn} {Γ : List Asn} {tp : TypeId} {z : Bool} {b : Patch} {y : Rp.Lay Patch} {i : Nat} (hi : takeAt i Ξ = some (lX tp z b y, Ξ')) (hz : z = true → In (slA y.2.1 b.l) Γ ∧ In (capA y.2.2 b.l.length) Γ) {a : Act} {w : World}
  (h : St M0 F0 w0 n σ Ξ Γ a w) : St M0 F0 w0 n σ Ξ' (slA y.2.1 b.l :: capA y.2.2 b.l.length :: Γ) a w := by
 cases z with
 | false =>
  obtain ⟨hs, Fs, hh⟩ := freezeN hi h;refine ⟨hs, Fs, { hh with ga := fun p hp => ?_ }⟩;rcases List.mem_cons.1 hp with rfl | hp
  ·exact hh.ga _ (by simp)
  rcases List.mem_cons.1 hp with rfl | hp
  ·exact hh.ga _ (by simp)
  ·exact hh.ga _ (by simp [hp])
 | true =>
  obtain ⟨g1, g2⟩ := hz rfl;obtain ⟨hs, Fs, hh⟩ := St.unbun (xs := []) hi h;refine ⟨hs, Fs, { hh with ga := fun p hp => ?_ }⟩;rcases List.mem_cons.1 hp with rfl | hp
  ·exact hh.ga _ g1.mem
  rcases List.mem_cons.1 hp with rfl | hp
  ·exact hh.ga _ g2.mem
  ·exact hh.ga _ hp
theorem c_growQ (k : Nat) (hk : k ≤ 2000000) : Con Tryz.prog 225 [.slice none 0 0, .int .i64 (k : Int)] [] [] (Option Addr × Nat) (fun y => .slice y.1 0 y.2) (fun y => [row 63 y.1 y.2 ([] : List PatchQ)]) (fun _ => []) := by
 refine con func225 rfl ntmps225 rfl ?_;intro M0 F0 w0;refine k_ 10 ?_;refine fixL (congrArg Value.bool (decide_eq_false (by omega))) ?_;refine k_ 2 ?_;refine cc rfl (fun h => by cases h) (fun h => ?_);refine k_ 7 ?_;refine ls (op (p_cap rfl underlying38) rfl) ?_;refine k_ 13 ?_;refine cc rfl ?_ ?_
 ·intro h16;have hk0 : 0 < k := (by have h := h16; simp at h; omega);refine k_ 3 ?_;refine ls (op (p_cap rfl underlying38) rfl) ?_;refine ls (op (p_slh 0 (Nat.zero_le _) rfl underlying38 sizeOf63 rfl rfl) rfl) ?_;refine fixL (v' := .slice none 0 0) rfl ?_;refine k_ 1 ?_;refine ls (o_appZ (frz Patch.zero) ((none, 0), (none, 0)) k underlying38 underlying3 inf63 rfl (by decide) (by decide) (fun M w p hp => by simp only [Rp.asn, frz, List.mem_cons, List.mem_nil_iff, or_false] at hp; rcases hp with rfl | rfl | rfl <;> first | exact slA_none M w | exact Nat.le_refl 0) hk0 (by omega) (by simp) rfl rfl rfl) ?_
  refine le ?_; rintro ⟨g22, c22, hc22⟩;refine lmono (fun a w h => rowTk (α := PatchQ) (l := List.replicate k (frz Patch.zero)) 0 (Nat.zero_le _) Θ Θ h) ?_;refine k_ 2 ?_;refine ls (op (p_slh 0 (Nat.zero_le _) rfl underlying38 sizeOf63 rfl rfl) rfl) ?_;refine fixL slh_val ?_;refine k_ 11 ?_;exact rR [0] (some ⟨g22, 0, none⟩, c22)
 ·intro h16;have hk0 : k = 0 := (by have h := h16; simp at h; omega);refine k_ 3 ?_;refine cmono (fun a w h => nilRow (α := PatchQ) 63 h) ?_;refine k_ 7 ?_;exact rR [0] (none, 0)
theorem c_concatQ (rs : List (List PatchQ)) (B : Option Addr) (c' : Nat) (hls : rs.length ≤ 2000000) (ht : rs.flatten.length ≤ 2000000) : Con Tryz.prog 179 [.slice B rs.length c'] [] [slA B rs] (Option Addr × Nat) (fun y => .slice y.1 rs.flatten.length y.2) (fun y => [row 63 y.1 y.2 rs.flatten]) (fun _ => []) := by
 refine con func179 rfl ntmps179 rfl ?_;intro M0 F0 w0;refine k_ 19 ?_;refine cl (ι := {q : Nat × Int // q.1 ≤ rs.length ∧ q.2 = (((rs.take q.1).flatten.length : Nat) : Int)}) (fun i => St M0 F0 w0 36 [(0, .slice B rs.length c'), (3, .int .i64 i.1.2), (9, .slice B rs.length c'), (10, .int .i64 (rs.length : Int)), (11, .int .i64 ((i.1.1 : Nat) : Int))] [] [slA B rs]) (fun i => rs.length - i.1.1) ⟨(0, 0), Nat.zero_le _, rfl⟩ (wk0 Φ Ω) ?_;rintro ⟨⟨k, n⟩, hk, hn⟩;refine cmono (S' := St M0 F0 w0 36 [(0, .slice B rs.length c'), (3, .int .i64 n), (9, .slice B rs.length c'), (10, .int .i64 (rs.length : Int)), (11, .int .i64 ((k : Nat) : Int))] [] [slA B rs]) Ħ ?_;refine k_ 6 ?_;refine cc rfl ?_ ?_
 ·intro h12;dsimp only at hk hn;(try simp only [nrmZ] at h12);have hk1 : k < rs.length := (by omega);have ht1 := flq_take hk1;have ht2 := flq_le rs (k + 1);refine k_ 5 ?_;refine elC Θ k (List.getElem?_eq_getElem (l := rs) hk1) ?_; rintro zbp zop zyp hAp;refine cr ?_;refine ls (op (p_ia k hAp hk1 rfl underlying242 sizeOf38 rfl rfl) rfl) ?_;refine ls (o_ldi isAgg38 rfl Θ 0 rfl Δ rfl) ?_;refine k_ 16 ?_;refine fixL (congrArg Value.bool (decide_eq_false (by omega))) ?_;refine k_ 2 ?_;refine cc rfl (fun h => by cases h) (fun h => ?_);refine k_ 7 ?_;refine nnext ⟨(k + 1, n + (rs[k].length : Int)), hk1, by dsimp only; omega⟩ (by dsimp only; omega) (wK [])
 ·intro h12;dsimp only at hk hn;(try simp only [nrmZ] at h12);obtain rfl : k = rs.length := (by omega);rw [List.take_length] at hn;refine k_ 8 ?_;refine fixL (congrArg (Value.int .i64) hn) ?_;refine lC [] call225 (c_growQ rs.flatten.length ht) ?_; rintro ⟨A24, c24⟩;refine k_ 12 ?_;refine cl (ι := {q : Nat × (Option Addr × Nat) // q.1 ≤ rs.length}) (fun i => St M0 F0 w0 36 [(0, .slice B rs.length c'), (6, .slice i.1.2.1 (rs.take i.1.1).flatten.length i.1.2.2), (25, .slice B rs.length c'), (26, .int .i64 (rs.length : Int)), (27, .int .i64 ((i.1.1 : Nat) : Int))] [row 63 (i.1.2.1) (i.1.2.2) (rs.take i.1.1).flatten] [slA B rs]) (fun i => rs.length - i.1.1) ⟨(0, (A24, c24)), Nat.zero_le _⟩ (wk0 Φ Ω) ?_;rintro ⟨⟨k, ⟨A6, c6⟩⟩, hk⟩;refine cmono (S' := St M0 F0 w0 36 [(0, .slice B rs.length c'), (6, .slice A6 (rs.take k).flatten.length c6), (25, .slice B rs.length c'), (26, .int .i64 (rs.length : Int)), (27, .int .i64 ((k : Nat) : Int))] [row 63 (A6) (c6) (rs.take k).flatten] [slA B rs]) Ħ ?_;refine k_ 6 ?_;refine cc rfl ?_ ?_
  ·intro h28;dsimp only at hk;(try simp only [nrmZ] at h28);have hk1 : k < rs.length := (by omega);have ht1 := flq_take hk1;have ht2 := flq_le rs (k + 1);refine k_ 5 ?_;refine elC Θ k (List.getElem?_eq_getElem (l := rs) hk1) ?_; rintro zbp zop zyp hAp;refine cr ?_;refine ls (op (p_ia k hAp hk1 rfl underlying242 sizeOf38 rfl rfl) rfl) ?_;refine ls (o_ldi isAgg38 rfl Θ 0 rfl Δ rfl) ?_;refine k_ 6 ?_;refine ls (o_appX (i := 0) underlying38 inf63 rfl (by decide) (by decide) rfl rfl (by omega) rfl Ω rfl) ?_;refine le ?_; rintro ⟨A33, c33⟩;refine k_ 8 ?_;refine nnext ⟨(k + 1, (A33, c33)), hk1⟩ (by dsimp only; omega) (fun a w h => by dsimp only; rw [flq_snoc hk1]; exact wL [0] h)
  ·intro h28;dsimp only at hk;(try simp only [nrmZ] at h28);obtain rfl : k = rs.length := (by omega);rw [List.take_length];refine k_ 13 ?_;exact rR [0] (A6, c6)
theorem c_logPutQ (rs : List (List PatchQ)) (B : Option Addr) (c' : Nat) (hls : rs.length ≤ 2000000) (ht : rs.flatten.length ≤ 2000000) (pl p : Nat) (s0 : Value) : Con Tryz.prog 130 [pT pl, .slice B rs.length c'] [box pl 124 [s0, pT p]] [slA B rs] (Option Addr × Nat) (fun _ => .tuple #[]) (fun y => [box pl 124 [.slice y.1 rs.flatten.length y.2, pT p], row 63 y.1 y.2 rs.flatten]) (fun _ => []) := by
 refine con func130 rfl ntmps130 rfl ?_;intro M0 F0 w0;refine k_ 3 ?_;refine lC [] call179 (c_concatQ rs B c' hls ht) ?_; rintro ⟨A6, c6⟩;refine ls (op (p_nilck rfl) rfl) ?_;refine k_ 3 ?_;exact rR [1, 0] (A6, c6)
theorem c_logAtQ (l : List Patch) (A : Option Addr) (c : Nat) (hl : l.length ≤ 2000000) (h : Option Addr × Nat) (pl p : Nat) (v : Int) : Con Tryz.prog 68 [pT pl, .int .i64 v] [row 63 A c (fzq l h), oX 103 (l) (h), box pl 124 [.slice A l.length c, pT p]] [] Unit (fun _ => .int .i64 (atP l v)) (fun _ => [row 63 A c (fzq l h), oX 103 (l) (h)] ++ [box pl 124 [.slice A l.length c, pT p]]) (fun _ => []) :=
 borrowZ (Ξz := [row 63 A c (fzq l h), oX 103 (l) (h)]) fzL_Z (c_logAtO l A c hl pl p v) (fun _ => ⟨fun z hz => by rw [List.mem_singleton.1 hz]; exact box_free, rfl⟩)
theorem c_logLastQ (l : List Patch) (A : Option Addr) (c : Nat) (hl : l.length ≤ 2000000) (hq0 : Option Addr × Nat) (hf : ∀ q ∈ l, q.fit) (hc : l.length ≤ c) (hA : A = none → c = 0) (pl p : Nat) (v : Int) : Con Tryz.prog 121 [pT pl, .int .i64 v] [row 63 A c (fzq l hq0), oX 103 (l) (hq0), box pl 124 [.slice A l.length c, pT p]] [] {x : (List Patch × Int) × ((Option Addr × Nat) × (Option Addr × Nat)) // x.1 = lastP l v} (fun x => .int .i64 x.1.1.2) (fun x => if x.1.1.2 = 0 then [row 63 x.1.2.1.1 x.1.2.1.2 (fzq x.1.1.1 x.1.2.2), oX 103 (x.1.1.1) (x.1.2.2), box pl 124 [.slice x.1.2.1.1 x.1.1.1.length x.1.2.1.2, pT p]] else []) (fun _ => []) := by
 refine con func121 rfl ntmps121 rfl ?_;intro M0 F0 w0;refine k_ 9 ?_;refine lC [0, 0, 0] call68 (c_logAtQ l A c hl hq0 pl p v) ?_; intro x15;refine k_ 10 ?_;refine cc rfl ?_ ?_
 ·intro h17;have hn : atP l v < 0 := of_decide_eq_true h17;refine k_ 7 ?_;exact rR [] ⟨((l, 81), ((none, 0), (none, 0))), (lastP_no hn).symm⟩
 ·intro h17;have hn : ¬ atP l v < 0 := of_decide_eq_false h17;obtain ⟨k, hk1, hk2, _⟩ : ∃ k : Nat, ∃ h : k < l.length, atP l v = (k : Int) ∧ l[k].id = v ∧ ∀ j (hj : j < k), l[j].id ≠ v := (by rcases atP_cases l v with ⟨h, _⟩ | h; omega; exact h);have hfk := hf _ (List.getElem_mem hk1);have hDl : (l.drop (k + 1)).length = l.length - (k + 1) := List.length_drop;have hfD : ∀ q ∈ (l.drop (k + 1)), q.fit := fun q hq => hf q (List.mem_of_mem_drop hq);refine k_ 3 ?_;rcases emk hk1 with hlast | hmore
  ·
   have hfq := fzq_last hlast hk1 hq0;rw [oX_last hlast hk1];refine rowC (α := PatchQ) (A := A) (l := fzq l hq0) Θ (List.ne_nil_of_length_pos (by rw [fzq_len]; omega)) ?_; rintro g0 rfl;refine k_ 2 ?_;refine ls (op (p_nilck rfl) rfl) ?_;refine k_ 3 ?_;refine ls (op (p_ia k rfl hk1 hk2 underlying38 sizeOf63 rfl rfl) rfl) ?_;refine ls (o_ldrow isAgg63 sizeOf63 rfl Θ hfq rfl) ?_;refine le ?_; intro y24;refine ls (o_alloc zeroValue63 rfl rfl) ?_;refine le ?_; intro b6;refine k_ 4 ?_;refine cmono (fun a w h => nilRow (α := PatchQ) 63 h) ?_;refine k_ 8 ?_;refine ls (op (p_nilck rfl) rfl) ?_;refine k_ 4 ?_;refine ls (op (p_sll (k + 1) (by omega) (by omega) (by omega) underlying38 sizeOf63 rfl rfl) rfl) ?_;refine fixL (slen (m' := 0) (by omega)) ?_;refine k_ 5 ?_;refine cl (ι := Unit) (fun i => St M0 F0 w0 64 [(0, pT pl), (5, .int .i64 (atP l v)), (6, pT b6), (7, .slice none 0 0), (32, .int .i64 0), (33, .int .i64 0)] [row 63 none 0 ([] : List PatchQ), box b6 63 (Rp.enc (ownQ l[k] hq0) y24), row 63 (some ⟨g0, 0, none⟩) c (fzq l hq0), row 103 hq0.1 hq0.2 l[k].l, box pl 124 [.slice (some ⟨g0, 0, none⟩) l.length c, pT p]] [slA y24.1.1 l[k].deps]) (fun i => 0) () (wK [0, 0, 0, 0, 0]) ?_;rintro ⟨⟩;refine cmono (S' := St M0 F0 w0 64 [(0, pT pl), (5, .int .i64 (atP l v)), (6, pT b6), (7, .slice none 0 0), (32, .int .i64 0), (33, .int .i64 0)] [row 63 none 0 ([] : List PatchQ), box b6 63 (Rp.enc (ownQ l[k] hq0) y24), row 63 (some ⟨g0, 0, none⟩) c (fzq l hq0), row 103 hq0.1 hq0.2 l[k].l, box pl 124 [.slice (some ⟨g0, 0, none⟩) l.length c, pT p]] [slA y24.1.1 l[k].deps]) Ħ ?_;refine k_ 6 ?_;refine cc rfl ?_ ?_
   ·intro h34;exact absurd h34 (by decide)
   ·intro h34
    skip
    refine k_ 6 ?_;refine cmono (fun a w h => freezeN (i := 2) rfl h) ?_;refine cmono (fun a w h => freezeN (i := 0) rfl h) ?_;refine cmono (fun a w h => subS (l := fzq l hq0) (l' := (l.take k).map frz) (c := c) 0 k (by repeat (first | exact In.z | apply In.s)) (by omega) (by rw [fzq_len]; omega) (by rw [fzq_len]; exact hc) (by rw [List.drop_zero, Nat.sub_zero]; exact fzq_take hlast hq0) h) ?_;refine cmono (fun a w h => nilQ (y := ((if c = 0 then (some ⟨g0, 0, none⟩ : Option Addr) else (some ⟨g0, 0, none⟩ : Option Addr).map (·.add (0 * Rp.size PatchQ))), c - 0)) (fun e => sub_nil hA e) h) ?_;refine cmono (fun a w h => capQ (c := c - 0) (m := ((l.take k).map frz).length) (by rw [List.length_map, List.length_take]; omega) h) ?_;refine cd [9, 10, 11] [(4, pl, 0, _), (8, b6, 0, _)] TryzX.mixed (tB 1 (tB 4 TOk.d)) ?_;refine u_ 0 2 ?_;refine tk 2 rfl Ψ Υ gnone (TTany _) (p_nilck rfl) rfl ?_;refine u_ 3 3 ?_;refine tk 6 rfl Ψ Υ gnone (TTany _) (p_slh k (by omega) hk2 underlying38 sizeOf63 rfl rfl) rfl ?_;refine fixA (slen (m' := ((l.take k).map frz).length) (by rw [List.length_map, List.length_take]; omega)) ?_;refine u_ 7 2 ?_;refine df 9 Ψ ?_;refine doR rfl (o_bsl [ownQ l[k] hq0] underlying38 sizeOf63 zeroValue63 rfl (Enum.t Enum.d) (RV.t y24 rfl Ω RV.d) rfl (by decide) (by decide) rfl) (TOk.t (isBoxE fun _ => isBoxS Θ (k := 1) Δ) (TOk.x Ψ TOk.d)) ?_;refine ea ?_; intro b61;refine amono (fun a w h => freezeN (i := 0) rfl h) ?_;refine df 10 Ψ ?_;refine doR rfl (o_bsl [(l.take k).map frz, [], [ownQ l[k] hq0]] underlying242 sizeOf38 zeroValue38 rfl (Enum.t (Enum.t (Enum.t Enum.d))) (RV.t ((if c = 0 then (some ⟨g0, 0, none⟩ : Option Addr) else (some ⟨g0, 0, none⟩ : Option Addr).map (·.add (0 * Rp.size PatchQ))), c - 0) rfl Ω (RV.t (none, 0) rfl Ω (RV.t (some ⟨b61, 0, none⟩, 1) rfl Ω RV.d))) rfl (by decide) (by decide) rfl) tX ?_;refine ea ?_; intro b62;refine amono (fun a w h => Go.Sx.freeze (i := 0) rfl h) ?_;refine df 11 Ψ ?_;refine doR rfl (o_call (is := [2]) call130 (c_logPutQ [(l.take k).map frz, [], [ownQ l[k] hq0]] (some ⟨b62, 0, none⟩) 3 (by simp) (by simp only [List.flatten_cons, List.flatten_nil, List.length_append, List.length_map, List.length_take, List.length_cons, List.length_nil]; omega) pl p (.slice (some ⟨g0, 0, none⟩) l.length c)) rfl rfl Ω rfl) tX ?_;refine ea ?_; rintro ⟨A63, c63⟩;refine dn Ψ ?_;refine k_ 2 ?_;rw [fl_last hlast hk1, fzq_len, ← oX_last (tp := 103) hlast hk1];refine k_ 6 ?_;exact rR [1, 2, 0] ⟨((l, 0), ((A63, c63), hq0)), (lastP_last hlast hk1 hk2).symm⟩
  ·
   refine cmono (fun a w h => St.fzL h) ?_;refine cmono (fun a w h => Go.Sx.freeze (i := 0) rfl h) ?_;refine elC (A := A) (l := l) Θ k (List.getElem?_eq_getElem hk1) ?_; rintro zbp zop zyp hAp;refine k_ 2 ?_;refine ls (op (p_nilck rfl) rfl) ?_;refine k_ 3 ?_;refine ls (op (p_ia k hAp hk1 hk2 underlying38 sizeOf63 rfl rfl) rfl) ?_;refine ls (o_ldj isAgg63 sizeOf63 rfl Θ 0 rfl Δ rfl) ?_;refine ls (o_alloc zeroValue63 rfl rfl) ?_;refine le ?_; intro b6;refine k_ 4 ?_;refine cmono (fun a w h => nilRow (α := PatchQ) 63 h) ?_;refine k_ 6 ?_;refine cmono (fun a w h => subS (l' := (l.drop (k + 1))) (c := c) (k + 1) l.length (by repeat (first | exact In.z | apply In.s)) (by omega) (Nat.le_refl _) hc (by rw [List.take_of_length_le (by simp)]) h) ?_;refine k_ 2 ?_;refine ls (op (p_nilck rfl) rfl) ?_;refine k_ 4 ?_;refine ls (op (p_sll (k + 1) (by omega) (by omega) (by omega) underlying38 sizeOf63 rfl rfl) rfl) ?_;refine fixL (slen (m' := (l.drop (k + 1)).length) (by omega)) ?_;refine k_ 5 ?_;refine cl (ι := {q : (Nat × List Patch) × (Patch × Rp.Lay Patch) × (Option Addr × Nat) // q.1.1 ≤ (l.drop (k + 1)).length ∧ lastF l[k] ((l.drop (k + 1)).take q.1.1) = some (q.1.2, q.2.1.1) ∧ (q.1.1 = 0 → q.2.1 = (l[k], zyp))}) (fun i => St M0 F0 w0 64 [(0, pT pl), (5, .int .i64 (atP l v)), (6, pT b6), (7, .slice i.1.2.2.1 ((i.1.1.2).map frz).length i.1.2.2.2), (31, .slice (if c = k + 1 then A else A.map (·.add ((k + 1) * Rp.size Patch))) (l.drop (k + 1)).length (c - (k + 1))), (32, .int .i64 ((l.drop (k + 1)).length : Int)), (33, .int .i64 ((i.1.1.1 : Nat) : Int))] [row 63 (i.1.2.2.1) (i.1.2.2.2) ((i.1.1.2).map frz), lX 103 (decide (i.1.1.1 = 0)) (i.1.2.1.1) (i.1.2.1.2), box b6 63 (Rp.enc (i.1.2.1.1) (i.1.2.1.2)), box pl 124 [.slice A l.length c, pT p]] [slA (i.1.2.1.2).1.1 (i.1.2.1.1).deps, slA zyp.2.1 l[k].l, capA zyp.2.2 l[k].l.length, slA A l, slA (if c = k + 1 then A else A.map (·.add ((k + 1) * Rp.size Patch))) (l.drop (k + 1))]) (fun i => (l.drop (k + 1)).length - i.1.1.1) ⟨((0, []), (l[k], zyp), (none, 0)), Nat.zero_le _, rfl, fun _ => rfl⟩ (fun a w h => wL [1, 0, 0, 0] (St.nobun h)) ?_;rintro ⟨⟨⟨k2, s0⟩, ⟨b0, yb⟩, ⟨A7, c7⟩⟩, hk3, hlf, hz0⟩;refine cmono (S' := St M0 F0 w0 64 [(0, pT pl), (5, .int .i64 (atP l v)), (6, pT b6), (7, .slice A7 ((s0).map frz).length c7), (31, .slice (if c = k + 1 then A else A.map (·.add ((k + 1) * Rp.size Patch))) (l.drop (k + 1)).length (c - (k + 1))), (32, .int .i64 ((l.drop (k + 1)).length : Int)), (33, .int .i64 ((k2 : Nat) : Int))] [row 63 (A7) (c7) ((s0).map frz), lX 103 (decide (k2 = 0)) (b0) (yb), box b6 63 (Rp.enc (b0) (yb)), box pl 124 [.slice A l.length c, pT p]] [slA (yb).1.1 (b0).deps, slA zyp.2.1 l[k].l, capA zyp.2.2 l[k].l.length, slA A l, slA (if c = k + 1 then A else A.map (·.add ((k + 1) * Rp.size Patch))) (l.drop (k + 1))]) Ħ ?_;refine k_ 6 ?_;refine cc rfl ?_ ?_
   ·intro h34;dsimp only at hk3 hlf hz0;(try simp only [nrmZ] at h34);have hk4 : k2 < (l.drop (k + 1)).length := (by omega);have hfb := (lastF_fit hlf hfk (fun q hq => hfD q (List.mem_of_mem_take hq))).2;have hls := lastF_len hlf;have hlt := List.length_take_le k2 (l.drop (k + 1));refine k_ 5 ?_;refine cmono (fun a w h => St.lXfz (i := 1) rfl (fun e => by obtain ⟨rfl, rfl⟩ := Prod.mk.inj (hz0 (of_decide_eq_true e)); exact ⟨(by repeat (first | exact In.z | apply In.s)), (by repeat (first | exact In.z | apply In.s))⟩) h) ?_;refine elC (A := (if c = k + 1 then A else A.map (·.add ((k + 1) * Rp.size Patch)))) (l := (l.drop (k + 1))) Θ k2 (List.getElem?_eq_getElem hk4) ?_; rintro zbq zoq zyq hAq;refine cr ?_;refine ls (op (p_ia k2 hAq hk4 rfl underlying38 sizeOf63 rfl rfl) rfl) ?_;refine ls (o_ldj isAgg63 sizeOf63 rfl Θ 0 rfl Δ rfl) ?_;refine ls (o_alloc zeroValue63 rfl rfl) ?_;refine le ?_; intro b9;refine k_ 5 ?_;refine ls (o_ldw isAgg63 sizeOf63 rfl Θ (by rfl) rfl) ?_;refine ls (o_ldw isAgg63 sizeOf63 rfl Θ (by rfl) rfl) ?_;refine lC [] call168 (c_nSwapS b0 (l.drop (k + 1))[k2] yb zyq hfb (hfD _ (List.getElem_mem hk4))) ?_; rintro ⟨⟨⟨r1, r2, r3⟩, z1, z2⟩, hr⟩;dsimp only at hr;refine k_ 4 ?_;refine ls (o_alloc zeroValue63 rfl rfl) ?_;refine le ?_; intro b10;refine ls (o_alloc zeroValue63 rfl rfl) ?_;refine le ?_; intro b11;refine k_ 12 ?_;refine cc rfl ?_ ?_
    ·intro h45;obtain rfl : r3 = false := (by have h := h45; simpa using h);have hno : lastF l[k] (l.drop (k + 1)) = none := lastF_stuck hk4 hlf hr;refine k_ 7 ?_;exact rR [] ⟨((l, 83), ((none, 0), (none, 0))), (lastP_none hk1 hk2 hno).symm⟩
    ·intro h45;obtain rfl : r3 = true := (by have h := h45; simpa using h);refine k_ 2 ?_;refine cd [2, 3, 6] [(1, b10, 0, _), (4, b11, 0, _)] TryzX.mixed (tB 4 (tB 4 TOk.d)) ?_;refine u_ 0 2 ?_;refine u_ 4 1 ?_;refine df 2 Ψ ?_;refine doR rfl (o_bsl [frz r1] underlying38 sizeOf63 zeroValue63 rfl (Enum.t Enum.d) (RV.t z1 rfl Ω RV.d) rfl (by decide) (by decide) rfl) (TOk.x Ψ (TOk.t (isBoxE fun _ => isBoxS Θ (k := 4) Δ) TOk.d)) ?_;refine ea ?_; intro b48;refine amono (fun a w h => Go.Sx.freeze (i := 0) rfl h) ?_;refine df 3 Ψ ?_;refine doR rfl (o_appX (i := 4) underlying38 inf63 rfl (by decide) (by decide) rfl rfl (by simp only [List.length_map, List.length_cons, List.length_nil]; omega) rfl Ω rfl) (TOk.x Ψ (TOk.t (isBoxE fun _ => isBoxS Θ (k := 4) Δ) TOk.d)) ?_;refine ea ?_; rintro ⟨A49, c49⟩;refine u_ 5 1 ?_;refine df 6 Ψ ?_;refine doR rfl (o_st rfl sizeOf63 rfl rfl rfl rfl rfl Θ Θ Θ) tX ?_;refine dn Ψ ?_;refine k_ 6 ?_;refine nnext ⟨((k2 + 1, s0 ++ [r1]), (r2, z2), (A49, c49)), hk4, lastF_step hk4 hlf hr, fun e => by simp at e⟩ (by dsimp only; omega) (fun a w h => by dsimp only; rw [List.map_append, lX_own]; exact wL [0, 2, 3, 3] h)
   ·intro h34;dsimp only at hk3 hlf hz0;(try simp only [nrmZ] at h34);obtain rfl : k2 = (l.drop (k + 1)).length := (by omega);rw [List.take_length] at hlf;have hls := lastF_len hlf;refine k_ 6 ?_;rw [lX_at (show decide ((l.drop (k + 1)).length = 0) = false from decide_eq_false (by omega))];refine cmono (fun a w h => freezeN (i := 0) rfl h) ?_;refine cmono (fun a w h => subS (l' := l.take k) (c := c) 0 k (by repeat (first | exact In.z | apply In.s)) (by omega) (by omega) hc (by simp) h) ?_;refine cmono (fun a w h => St.slQ (by repeat (first | exact In.z | apply In.s)) h) ?_;refine cmono (fun a w h => nilQ (y := ((if c = 0 then A else A.map (·.add (0 * Rp.size Patch))), c - 0)) (fun e => sub_nil hA e) h) ?_;refine cmono (fun a w h => capQ (c := c - 0) (m := ((l.take k).map frz).length) (by rw [List.length_map, List.length_take]; omega) h) ?_;refine cd [9, 10, 11] [(4, pl, 0, _), (8, b6, 0, _)] TryzX.mixed (tB 1 (tB 4 TOk.d)) ?_;refine u_ 0 2 ?_;refine tk 2 rfl Ψ Υ gnone (TTany _) (p_nilck rfl) rfl ?_;refine u_ 3 3 ?_;refine tk 6 rfl Ψ Υ gnone (TTany _) (p_slh k (by omega) hk2 underlying38 sizeOf63 rfl rfl) rfl ?_;refine fixA (slen (m' := ((l.take k).map frz).length) (by rw [List.length_map, List.length_take]; omega)) ?_;refine u_ 7 2 ?_;refine df 9 Ψ ?_;refine doR rfl (o_bsl [ownQ b0 yb.2] underlying38 sizeOf63 zeroValue63 rfl (Enum.t Enum.d) (RV.t yb rfl Ω RV.d) rfl (by decide) (by decide) rfl) (TOk.t (isBoxE fun _ => isBoxS Θ (k := 1) Δ) (TOk.x Ψ TOk.d)) ?_;refine ea ?_; intro b61;refine amono (fun a w h => freezeN (i := 0) rfl h) ?_;refine df 10 Ψ ?_;refine doR rfl (o_bsl [(l.take k).map frz, s0.map frz, [ownQ b0 yb.2]] underlying242 sizeOf38 zeroValue38 rfl (Enum.t (Enum.t (Enum.t Enum.d))) (RV.t ((if c = 0 then A else A.map (·.add (0 * Rp.size Patch))), c - 0) rfl Ω (RV.t (A7, c7) rfl Ω (RV.t (some ⟨b61, 0, none⟩, 1) rfl Ω RV.d))) rfl (by decide) (by decide) rfl) tX ?_;refine ea ?_; intro b62;refine amono (fun a w h => Go.Sx.freeze (i := 0) rfl h) ?_;refine df 11 Ψ ?_;refine doR rfl (o_call (is := [2]) call130 (c_logPutQ [(l.take k).map frz, s0.map frz, [ownQ b0 yb.2]] (some ⟨b62, 0, none⟩) 3 (by simp) (by simp only [List.flatten_cons, List.flatten_nil, List.length_append, List.length_map, List.length_take, List.length_cons, List.length_nil]; omega) pl p (.slice A l.length c)) rfl rfl Ω rfl) tX ?_;refine ea ?_; rintro ⟨A63, c63⟩;refine dn Ψ ?_;refine k_ 2 ?_;rw [fl_more, fzq_len, ← oX_snoc 103 (l.take k ++ s0) b0 yb.2];refine k_ 6 ?_;exact rR [1, 1, 0] ⟨((l.take k ++ s0 ++ [b0], 0), ((A63, c63), yb.2)), (lastP_some hk1 hk2 hlf).symm⟩
theorem c_logDropQ (l : List Patch) (A : Option Addr) (c : Nat) (hl : l.length ≤ 2000000) (hq0 : Option Addr × Nat) (hz : 0 < l.length) (hf : ∀ q ∈ l, q.fit) (pl p b : Nat) (T : List File) (mm nn : Nat) (hi : AppInv mm nn T) (hm : ∀ q ∈ l, mm + 2 * lns q.l ≤ 1800000) (hn : ∀ q ∈ l, nn + 2 * q.l.length ≤ 1800000) : Con Tryz.prog 71 [pT pl] [box pl 124 [.slice A l.length c, pT p], row 63 A c (fzq l hq0), oX 103 (l) (hq0), box p 139 [.map (some b)], tr b T] [] {x : List File × Rp.Lay Patch // x.1 = (dropP l T).1.2} (fun x => .tuple #[sv (l[l.length - 1]'(by omega)) x.1.2, .bool true]) (fun x => [row 103 x.1.2.2.1 x.1.2.2.2 (l[l.length - 1]'(by omega)).l, box pl 124 [.slice A (l.take (l.length - 1)).length c, pT p], row 63 A c (l.take (l.length - 1)), box p 139 [.map (some b)], tr b x.1.1]) (fun x => [slA x.1.2.1.1 (l[l.length - 1]'(by omega)).deps]) := by
 refine con func71 rfl ntmps71 rfl ?_;intro M0 F0 w0;refine k_ 2 ?_;refine ls (o_alloc zeroValue63 rfl rfl) ?_;refine le ?_; intro b2;refine k_ 6 ?_;refine ls (op (p_nilck rfl) rfl) ?_;refine k_ 14 ?_;refine cc rfl ?_ ?_
 ·intro h13;exact absurd h13 (by simp; omega)
 ·intro h13;have hk1 : l.length - 1 < l.length := (by omega);have hlast : l.length - 1 + 1 = l.length := (by omega);have hfk := hf _ (List.getElem_mem hk1);have hmk := hm _ (List.getElem_mem hk1);have hnk := hn _ (List.getElem_mem hk1);have hii := invL_len l[l.length - 1].l;have hil := lns_inv l[l.length - 1].l;refine k_ 3 ?_;rw [oX_last hlast hk1];refine rowC (α := PatchQ) (A := A) (l := fzq l hq0) Θ (List.ne_nil_of_length_pos (by rw [fzq_len]; omega)) ?_;rintro g0 rfl;refine rowLeC (α := PatchQ) (l := fzq l hq0) Θ (fun hlc => ?_);rw [fzq_len] at hlc;refine k_ 2 ?_;refine ls (op (p_nilck rfl) rfl) ?_;refine k_ 3 ?_;refine ls (op (p_ia (l.length - 1) rfl hk1 (by omega) underlying38 sizeOf63 rfl rfl) rfl) ?_;refine ls (o_ldrow isAgg63 sizeOf63 rfl Θ (fzq_last hlast hk1 hq0) rfl) ?_;refine le ?_; intro zyp;refine ls (o_alloc zeroValue63 rfl rfl) ?_;refine le ?_; intro b5;refine k_ 4 ?_;refine cd [6, 7] [(3, pl, 1, _), (5, b5, 3, _)] TryzX.mixed (tB 1 (tB 1 TOk.d)) ?_;refine u_ 0 1 ?_;refine tk 1 rfl Ψ Υ gnone (TTany _) (p_nilck rfl) rfl ?_;refine u_ 2 4 ?_;refine df 6 Ψ ?_;refine doR rfl (o_call (is := [4]) call91 (c_seqInvertW l[l.length - 1].l hq0.1 hq0.2 hfk.ll hfk.lf) rfl rfl Ω rfl) (TOk.t (isBoxE fun _ => isBoxS Θ (k := 1) Δ) (TOk.x Ψ TOk.d)) ?_;refine ea ?_; rintro ⟨A28, c28⟩;refine amono (fun a w h => freezeN (i := 0) rfl h) ?_;refine apure (St.cap (m := (invL l[l.length - 1].l).length) (c := c28) Θ) ?_;intro hcap28;refine df 7 Ψ ?_;refine doR rfl (o_call (is := [5, 5]) call43 (c_seqApply p b T mm nn hi (invL l[l.length - 1].l) A28 c28 hcap28 (by omega) (invL_fit hfk.lf) (by omega) (by omega)) rfl rfl Ω rfl) tX ?_;refine ea ?_; rintro ⟨⟨U, e29⟩, hq⟩;refine dn Ψ ?_;refine k_ 2 ?_;refine cmono (fun a w h => rowTk (α := PatchQ) (l := fzq l hq0) (l.length - 1) (by rw [fzq_len]; omega) Θ Θ h) ?_;refine k_ 3 ?_;refine ls (op (p_nilck rfl) rfl) ?_;refine k_ 3 ?_;refine ls (op (p_slh (l.length - 1) (by omega) (by omega) underlying38 sizeOf63 rfl rfl) rfl) ?_;refine fixL slh_val ?_;refine fixL (slen (m' := (l.take (l.length - 1)).length) (by rw [List.length_take]; omega)) ?_;refine ls (op (p_nilck rfl) rfl) ?_;refine k_ 5 ?_;rw [fzq_take hlast hq0];refine cmono (fun a w h => St.unQ (i := 6) rfl h) ?_;refine cr ?_;refine ls (o_ldw isAgg63 sizeOf63 rfl Θ (by rfl) rfl) ?_;refine k_ 6 ?_;refine rret (is := [3, 5, 0, 0, 0]) ⟨(U, (zyp.1, hq0)), by rw [dropP_yes hz hq]⟩ (Or.inl rfl) (Res.c rfl isAgg63 sizeOf63 Θ (by rfl) (Res.t rfl Res.d)) (rfl) rfl Ω
end Go.Proofs.YtbhnolfcdcpbkaaGreatDoor.X
end
section
namespace Go.Sx
open Go
abbrev Sh.File := FileG Prim
end Go.Sx
end
