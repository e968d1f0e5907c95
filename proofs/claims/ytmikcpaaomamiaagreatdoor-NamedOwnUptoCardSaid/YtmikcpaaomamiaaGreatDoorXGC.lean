/- OWN WORK: a part of the proof of a law of the seat YtmikcpaaomamiaaGreatDoor: the rules by which the code is walked, what the functions compute, and the walk through them. -/
import Derived.Test.YtmikcpaaomamiaaGreatDoorXGA
import Derived.Test.YtmikcpaaomamiaaGreatDoorProg
import Derived.Test.YtmikcpaaomamiaaGreatDoorXGB
import Derived.Laws.StructEq
import Derived.Scope
section
set_option linter.unusedVariables false
set_option linter.unusedSimpArgs false
namespace Go.Proofs.YtmikcpaaomamiaaGreatDoor.X
open Go Go.RowKit Go.Proofs Go.Sx
open Tryz
attribute [local irreducible] slA isA box row TrL TrC TrN TrA Pu OpR
set_option maxHeartbeats 8000000
theorem depsOk_drop {id last : Int} {l : List Int} {k : Nat} (hk : k < l.length) : depsOk id last (l.drop k) = (!(decide (l[k] ≤ last) || decide (1000000000 < l[k]) || decide (l[k] = id)) && depsOk id l[k] (l.drop (k + 1))) := by
 rw [List.drop_eq_getElem_cons hk, depsOk]
theorem dec_patch (p q : Patch) : (decide (p.id = q.id) && decide (p.note = q.note) && decide (p.deps = q.deps) && decide (p.l = q.l)) = decide (p = q) := by
 rw [Bool.eq_iff_iff]
 cases p; cases q
 simp [and_assoc]
theorem right_f1 {p : Patch} (h : (decide (p.id < 1) || decide (1000000000 < p.id) || !lineOk p.note) = true) : p.right = false := by
 unfold Patch.right; cases h1 : lineOk p.note <;> simp [h1] at h ⊢ <;> omega
theorem right_f2 {p : Patch} (h : 8 < p.deps.length) : p.right = false := by
 unfold Patch.right; rw [show decide (p.deps.length ≤ 8) = false from decide_eq_false (by omega)]; simp
theorem right_f3 {p : Patch} (h : depsOk p.id 0 p.deps = false) : p.right = false := by
 unfold Patch.right; rw [h]; simp
theorem right_t {p : Patch} (h : (decide (p.id < 1) || decide (1000000000 < p.id) || !lineOk p.note) = false) (h2 : p.deps.length ≤ 8) (h3 : depsOk p.id 0 p.deps = true) :
  p.right = (decide ((1 : Int) ≤ (p.l.length : Int)) && decide ((p.l.length : Int) ≤ 24) && p.l.all Prim.right) := by
 unfold Patch.right
 simp only [Bool.or_eq_false_iff, decide_eq_false_iff_not, Bool.not_eq_false'] at h
 rw [show decide (1 ≤ p.id) = true from decide_eq_true (by omega), show decide (p.id ≤ 1000000000) = true from decide_eq_true (by omega), h.2, h3, show decide (p.deps.length ≤ 8) = true from decide_eq_true h2]
 simp only [Bool.and_true, Bool.true_and]
 congr 2 <;> (rw [decide_eq_decide]; omega)
theorem right_g1 {p : Patch} (h : (decide (p.id < 1) || decide (1000000000 < p.id) || !lineOk p.note || decide ((8 : Int) < (p.deps.length : Int)) || decide ((p.l.length : Int) < 1) || decide ((24 : Int) < (p.l.length : Int))) = true) : p.right = false := by
 unfold Patch.right
 cases h1 : lineOk p.note
 ·
  simp
 ·
  rw [Bool.eq_false_iff]
  intro h2
  simp [h1] at h h2
  omega
theorem right_g2 {p : Patch} (h : (decide (p.id < 1) || decide (1000000000 < p.id) || !lineOk p.note || decide ((8 : Int) < (p.deps.length : Int)) || decide ((p.l.length : Int) < 1) || decide ((24 : Int) < (p.l.length : Int))) = false) (h3 : depsOk p.id 0 p.deps = true) : p.right = p.l.all Prim.right := by
 unfold Patch.right
 simp only [Bool.or_eq_false_iff, decide_eq_false_iff_not, Bool.not_eq_false'] at h
 obtain ⟨⟨⟨⟨⟨a1, a2⟩, a3⟩, a4⟩, a5⟩, a6⟩ := h
 rw [show decide (1 ≤ p.id) = true from decide_eq_true (by omega), show decide (p.id ≤ 1000000000) = true from decide_eq_true (by omega), a3, h3, show decide (p.deps.length ≤ 8) = true from decide_eq_true (by omega), show decide (1 ≤ p.l.length) = true from decide_eq_true (by omega), show decide (p.l.length ≤ 24) = true from decide_eq_true (by omega)]
 simp
theorem rsame_t {p q : Patch} (h : (!decide (p.id = q.id) || !decide (p.note = q.note) || !decide ((p.deps.length : Int) = (q.deps.length : Int))) = true) : ¬ p = q := by
 rintro rfl; simp at h
theorem rsame_f {p q : Patch} (h : (!decide (p.id = q.id) || !decide (p.note = q.note) || !decide ((p.deps.length : Int) = (q.deps.length : Int))) = false) : p.id = q.id ∧ p.note = q.note ∧ p.deps.length = q.deps.length := by
 simp at h
 exact ⟨h.1.1, h.1.2, by omega⟩
set_option maxRecDepth 100000 in
theorem c_nRight1 (nn last : Int) (p : Patch) (y : Rp.Lay Patch) (bl bp : Nat) : Con Tryz.prog 31 [.int .i64 nn, .pointer (some ⟨bl, 0, none⟩), .pointer (some ⟨bp, 0, none⟩)] [box bl 3 [.int .i64 last], box bp 31 (Rp.enc p y)] [] Unit (fun _ => .bool (decide (nn ≤ last) || decide (1000000000 < nn) || decide (nn = p.id))) (fun _ => [box bl 3 [.int .i64 nn], box bp 31 (Rp.enc p y)]) (fun _ => []) := by
 refine con func31 rfl ntmps31 rfl ?_
 intro M0 F0 w0
 refine k_ 23 ?_
 refine orX 3 11 14 rfl (sL [0, 1, 2, 4, 6, 7, 8, 9]) ?_ ?_
 ·
  intro h11
  refine k_ 3 ?_
  refine ln (nmid (wk0 Φ Ω))
 apply exI
 ·
  intro h11
  refine k_ 3 ?_
  refine ln (nmid (wk0 Φ Ω))
 ·
  refine k_ 1 ?_
  refine orX 5 15 20 rfl (sL [0, 1, 4, 6, 7, 8, 9]) ?_ ?_
  ·
   intro h15
   refine k_ 5 ?_
   refine ln (nmid (wk0 Φ Ω))
  apply exI
  ·
   intro h15
   refine k_ 5 ?_
   refine ln (nmid (wk0 Φ Ω))
  ·
   refine k_ 5 ?_
   exact rR [0, 0] ()
set_option maxRecDepth 100000 in
theorem c_IndexFuncI (l : List Int) (A : Option Addr) (c : Nat) (hl : l.length ≤ 2000000) (last : Int) (p : Patch) (y : Rp.Lay Patch) (bl bp : Nat) : Con Tryz.prog 48 [.slice A l.length c, .func (.func 31) #[] #[.pointer (some ⟨bl, 0, none⟩), .pointer (some ⟨bp, 0, none⟩)]] [box bl 3 [.int .i64 last], box bp 31 (Rp.enc p y)] [slA A l] {r : Int × Int // -1 ≤ r.1 ∧ r.1 ≤ 2000000 ∧ (0 ≤ r.1 ↔ depsOk p.id last l = false)} (fun r => .int .i64 r.1.1) (fun r => [box bl 3 [.int .i64 r.1.2], box bp 31 (Rp.enc p y)]) (fun _ => []) := by
 refine con func48 rfl ntmps48 rfl ?_
 intro M0 F0 w0
 refine k_ 14 ?_
 refine cl (ι := {q : Nat × Int // q.1 ≤ l.length ∧ depsOk p.id last l = depsOk p.id q.2 (l.drop q.1)}) (fun i => St M0 F0 w0 19 [(0, .slice A l.length c), (1, .func (.func 31) #[] #[.pointer (some ⟨bl, 0, none⟩), .pointer (some ⟨bp, 0, none⟩)]), (7, .int .i64 (l.length : Int)), (8, .int .i64 (i.1.1 : Int))] [box bl 3 [.int .i64 i.1.2], box bp 31 (Rp.enc p y)] [slA A l]) (fun i => l.length - i.1.1) ⟨(0, last), by simp⟩ (wk0 Φ Ω) ?_
 rintro ⟨⟨k, la⟩, hk, hkk⟩
 refine cmono (S' := St M0 F0 w0 19 [(0, .slice A l.length c), (1, .func (.func 31) #[] #[.pointer (some ⟨bl, 0, none⟩), .pointer (some ⟨bp, 0, none⟩)]), (7, .int .i64 (l.length : Int)), (8, .int .i64 (k : Int))] [box bl 3 [.int .i64 la], box bp 31 (Rp.enc p y)] [slA A l]) Ħ ?_
 refine k_ 6 ?_
 refine cc rfl ?_ ?_
 ·
  intro h9
  dsimp only at hk hkk
  try simp only [nrmZ] at h9
  have hk1 : k < l.length := by omega
  rw [depsOk_drop hk1] at hkk
  refine k_ 11 ?_
  refine elC Θ k (List.getElem?_eq_getElem (l := l) hk1) ?_; rintro zbp zop zyp hAp
  refine k_ 4 ?_
  refine ls (op (p_ia k hAp hk1 rfl underlying22 sizeOf3 rfl rfl) rfl) ?_
  refine ls (o_ldi isAgg3 rfl Θ 0 rfl Δ rfl) ?_
  refine ls (o_callv (is := [0, 0]) rfl call31 (c_nRight1 l[k] la p y bl bp) rfl rfl rfl Ω rfl) ?_
  refine le ?_; intro x16
  refine k_ 2 ?_
  refine cc rfl ?_ ?_
  ·
   intro h16
   rw [h16] at hkk
   refine k_ 8 ?_
   exact rR [0, 0] ⟨((k : Int), l[k]), by dsimp only; omega, by dsimp only; omega, by dsimp only; exact ⟨fun _ => by simpa using hkk, fun _ => by omega⟩⟩
  ·
   intro h16
   rw [h16] at hkk
   refine k_ 7 ?_
   refine nnext ⟨(k + 1, l[k]), hk1, by simpa using hkk⟩ (by dsimp only; omega) (wk0 Φ Ω)
 ·
  intro h9
  dsimp only at hk hkk
  try simp only [nrmZ] at h9
  refine k_ 12 ?_
  exact rR [0, 0] ⟨(-1, la), by dsimp only; omega, by dsimp only; omega, by dsimp only; rw [hkk, List.drop_eq_nil_of_le (by omega)]; simp [depsOk]⟩
set_option maxRecDepth 100000 in
theorem c_ContainsFuncI (l : List Int) (A : Option Addr) (c : Nat) (hl : l.length ≤ 2000000) (last : Int) (p : Patch) (y : Rp.Lay Patch) (bl bp : Nat) : Con Tryz.prog 33 [.slice A l.length c, .func (.func 31) #[] #[.pointer (some ⟨bl, 0, none⟩), .pointer (some ⟨bp, 0, none⟩)]] [box bl 3 [.int .i64 last], box bp 31 (Rp.enc p y)] [slA A l] Int (fun _ => .bool !(depsOk p.id last l)) (fun r => [box bl 3 [.int .i64 r], box bp 31 (Rp.enc p y)]) (fun _ => []) := by
 refine con func33 rfl ntmps33 rfl ?_
 intro M0 F0 w0
 refine k_ 9 ?_
 refine lC [0, 0] call48 (c_IndexFuncI l A c hl last p y bl bp) ?_; rintro ⟨⟨r, rl⟩, hr1, hr2, hr3⟩
 refine k_ 6 ?_
 refine rret (is := [0, 0]) rl (Or.inl rfl) (Res.t rfl Res.d) ?_ rfl Ω
 dsimp only at hr1 hr2 hr3; simp [packV]; rw [Bool.eq_iff_iff]; simp [hr3]
set_option maxRecDepth 100000 in
theorem c_nRight (p : Patch) (y : Rp.Lay Patch) (hp : p.fit) : Con Tryz.prog 19 [sv p y] [] [slA y.1.1 p.deps, slA y.2.1 p.l, capA y.2.2 p.l.length] Unit (fun _ => .bool (p.right)) (fun _ => []) (fun _ => []) := by
 refine con func19 rfl ntmps19 rfl ?_
 intro M0 F0 w0
 refine k_ 2 ?_
 refine ls (o_box rfl rfl rfl) ?_
 refine le ?_; intro b1
 refine k_ 5 ?_
 refine ls (o_alloc zeroValue3 rfl rfl) ?_
 refine le ?_; intro b3
 refine k_ 5 ?_
 refine ls (op (p_mkf rfl) rfl) ?_
 refine k_ 11 ?_
 refine orX 4 10 14 rfl (sL [0, 1, 2, 3, 5, 4]) ?_ ?_
 ·
  intro h10
  refine k_ 4 ?_
  refine ln (nmid (wk0 Φ Ω))
 apply exI
 ·
  intro h10
  refine k_ 4 ?_
  refine ln (nmid (wk0 Φ Ω))
 ·
  refine k_ 1 ?_
  refine orX 5 15 20 rfl (sL [0, 1, 2, 3, 5, 4]) ?_ ?_
  ·
   intro h15
   refine k_ 5 ?_
   refine ln (nmid (wk0 Φ Ω))
  apply exI
  ·
   intro h15
   refine k_ 2 ?_
   refine lwant rfl rfl rfl rfl (o_call (is := []) call32 (c_lineRight p.note) rfl rfl Ω rfl) ?_
   refine le ?_; intro x18
   refine k_ 2 ?_
   refine ln (nmid (wk0 Φ Ω))
  ·
   refine k_ 3 ?_
   refine cc rfl ?_ ?_
   ·
    intro h6
    try simp only [nrmZ] at h6
    refine k_ 7 ?_
    refine rret (is := []) () (Or.inl rfl) (Res.t rfl Res.d) ?_ rfl Ω
    simp only [packV]; rw [right_f1 h6]
   ·
    intro h6
    try simp only [nrmZ] at h6
    refine cs ?_
    have hdl := hp.dl
    refine k_ 6 ?_
    refine splitL 26 rfl ?_ ?_
    ·
     intro h26
     refine k_ 8 ?_
     refine cc rfl (fun h => ?_) (fun h => by cases h)
     refine k_ 7 ?_
     refine rret (is := []) () (Or.inl rfl) (Res.t rfl Res.d) ?_ rfl Ω
     simp only [packV]; rw [right_f2 (by simp at h26; omega)]
    ·
     intro h26
     refine k_ 3 ?_
     refine lwant rfl rfl rfl rfl (o_call (is := [0, 0]) call33 (c_ContainsFuncI p.deps y.1.1 y.1.2 hp.dl 0 p y b3 b1) rfl rfl Ω rfl) ?_
     refine le ?_; intro r30
     refine k_ 4 ?_
     refine cc rfl ?_ ?_
     ·
      intro h21
      try simp only [nrmZ] at h21
      refine k_ 7 ?_
      refine rret (is := []) () (Or.inl rfl) (Res.t rfl Res.d) ?_ rfl Ω
      simp only [packV]; rw [right_f3 (by simpa using h21)]
     ·
      intro h21
      try simp only [nrmZ] at h21
      refine k_ 4 ?_
      have hll := hp.ll
      refine k_ 6 ?_
      refine andX 5 36 41 rfl (sL [0, 1, 2, 3, 5, 4, 20, 6, 22, 23, 24, 25, 26, 27, 28, 29, 30, 31, 21]) ?_ ?_
      ·
       intro h36
       refine k_ 5 ?_
       refine ln (nmid (wk0 Φ Ω))
      apply exI
      ·
       intro h36
       refine k_ 5 ?_
       refine ln (nmid (wk0 Φ Ω))
      ·
       refine k_ 1 ?_
       refine andX 4 42 46 rfl (sL [0, 1, 2, 3, 5, 4, 20, 6, 22, 23, 24, 25, 26, 27, 28, 29, 30, 31, 21]) ?_ ?_
       ·
        intro h42
        refine k_ 4 ?_
        refine ln (nmid (wk0 Φ Ω))
       apply exI
       ·
        intro h42
        refine k_ 2 ?_
        refine lwant rfl rfl rfl rfl (o_call (is := []) call34 (c_seqRight p.l _ _ hp.ll hp.lf) rfl rfl Ω rfl) ?_
        refine le ?_; intro x45
        refine k_ 1 ?_
        refine ln (nmid (wk0 Φ Ω))
       ·
        refine k_ 5 ?_
        refine rret (is := []) () (Or.inl rfl) (Res.t rfl Res.d) ?_ rfl Ω
        simp only [packV]; rw [right_t h6 (by simp at h26; omega) (by simpa using h21)]
set_option maxRecDepth 100000 in
theorem c_nSame (p q : Patch) (yp yq : Rp.Lay Patch) (hp : p.fit) (hq : q.fit) : Con Tryz.prog 17 [sv p yp, sv q yq] [] [slA yp.1.1 p.deps, slA yp.2.1 p.l, capA yp.2.2 p.l.length, slA yq.1.1 q.deps, slA yq.2.1 q.l, capA yq.2.2 q.l.length] Unit (fun _ => .bool (decide (p = q))) (fun _ => []) (fun _ => []) := by
 refine con func17 rfl ntmps17 rfl ?_
 intro M0 F0 w0
 refine k_ 2 ?_
 refine ls (o_box rfl rfl rfl) ?_
 refine le ?_; intro b2
 refine ls (o_box rfl rfl rfl) ?_
 refine le ?_; intro b3
 refine k_ 11 ?_
 refine andX 6 10 16 rfl (sL [0, 1, 2, 3, 4]) ?_ ?_
 ·
  intro h10
  refine k_ 6 ?_
  refine ln (nmid (wk0 Φ Ω))
 apply exI
 ·
  intro h10
  refine k_ 6 ?_
  refine ln (nmid (wk0 Φ Ω))
 ·
  refine k_ 1 ?_
  refine andX 6 17 23 rfl (sL [0, 1, 2, 3, 4]) ?_ ?_
  ·
   intro h17
   refine k_ 6 ?_
   refine ln (nmid (wk0 Φ Ω))
  apply exI
  ·
   intro h17
   refine k_ 4 ?_
   refine lwant rfl rfl rfl rfl (o_call (is := []) call29 (c_EqualI p.deps q.deps _ _ _ _ hp.dl) rfl rfl Ω rfl) ?_
   refine le ?_; intro x22
   refine k_ 1 ?_
   refine ln (nmid (wk0 Φ Ω))
  ·
   refine k_ 1 ?_
   refine andX 6 24 30 rfl (sL [0, 1, 4]) ?_ ?_
   ·
    intro h24
    refine k_ 6 ?_
    refine ln (nmid (wk0 Φ Ω))
   apply exI
   ·
    intro h24
    refine k_ 4 ?_
    refine lwant rfl rfl rfl rfl (o_call (is := []) call30 (c_seqSame p.l q.l _ _ _ _ hp.ll hp.lf) rfl rfl Ω rfl) ?_
    refine le ?_; intro x29
    refine k_ 1 ?_
    refine ln (nmid (wk0 Φ Ω))
   ·
    refine k_ 5 ?_
    refine rret (is := []) () (Or.inl rfl) (Res.t rfl Res.d) ?_ rfl Ω
    simp only [packV, dec_patch]
set_option maxRecDepth 100000 in
theorem c_rRight (p : Patch) (y : Rp.Lay Patch) (hp : p.fit) : Con Tryz.prog 5 [sv p y] [] [slA y.1.1 p.deps, slA y.2.1 p.l, capA y.2.2 p.l.length] Unit (fun _ => .bool (p.right)) (fun _ => []) (fun _ => []) := by
 refine con func5 rfl ntmps5 rfl ?_
 intro M0 F0 w0
 refine k_ 2 ?_
 refine ls (o_box rfl rfl rfl) ?_
 refine le ?_; intro b1
 refine k_ 5 ?_
 have hdl := hp.dl; have hll := hp.ll
 refine k_ 5 ?_
 refine orX 4 7 11 rfl (sL [0, 1, 2]) ?_ ?_
 ·
  intro h7
  refine k_ 4 ?_
  refine ln (nmid (wk0 Φ Ω))
 apply exI
 ·
  intro h7
  refine k_ 4 ?_
  refine ln (nmid (wk0 Φ Ω))
 ·
  refine k_ 1 ?_
  refine orX 5 12 17 rfl (sL [0, 1, 2]) ?_ ?_
  ·
   intro h12
   refine k_ 5 ?_
   refine ln (nmid (wk0 Φ Ω))
  apply exI
  ·
   intro h12
   refine k_ 2 ?_
   refine lwant rfl rfl rfl rfl (o_call (is := []) call13 (c_refLine p.note hp.nb) rfl rfl Ω rfl) ?_
   refine le ?_; intro x15
   refine k_ 2 ?_
   refine ln (nmid (wk0 Φ Ω))
  ·
   refine k_ 1 ?_
   refine orX 5 18 23 rfl (sL [0, 1, 2]) ?_ ?_
   ·
    intro h18
    refine k_ 5 ?_
    refine ln (nmid (wk0 Φ Ω))
   apply exI
   ·
    intro h18
    refine k_ 5 ?_
    refine ln (nmid (wk0 Φ Ω))
   ·
    refine k_ 1 ?_
    refine orX 5 24 29 rfl (sL [0, 1, 2]) ?_ ?_
    ·
     intro h24
     refine k_ 5 ?_
     refine ln (nmid (wk0 Φ Ω))
    apply exI
    ·
     intro h24
     refine k_ 5 ?_
     refine ln (nmid (wk0 Φ Ω))
    ·
     refine k_ 1 ?_
     refine orX 5 30 35 rfl (sL [0, 1, 2]) ?_ ?_
     ·
      intro h30
      refine k_ 5 ?_
      refine ln (nmid (wk0 Φ Ω))
     apply exI
     ·
      intro h30
      refine k_ 5 ?_
      refine ln (nmid (wk0 Φ Ω))
     ·
      refine k_ 2 ?_
      refine cc rfl ?_ ?_
      ·
       intro h35
       try simp only [nrmZ] at h35
       refine k_ 7 ?_
       refine rret (is := []) () (Or.inl rfl) (Res.t rfl Res.d) ?_ rfl Ω
       simp only [packV]; rw [right_g1 h35]
      ·
       intro h35
       try simp only [nrmZ] at h35
       refine k_ 9 ?_
       refine cl (ι := {q : Nat × Int // q.1 ≤ p.deps.length ∧ depsOk p.id 0 p.deps = depsOk p.id q.2 (p.deps.drop q.1) ∧ 0 ≤ q.2 ∧ (q.1 = 0 → q.2 = 0) ∧ (0 < q.1 → p.deps[q.1 - 1]? = some q.2)}) (fun i => St M0 F0 w0 88 [(1, .pointer (some ⟨b1, 0, none⟩)), (3, .int .i64 (i.1.1 : Int))] [box b1 25 (Rp.enc p y)] [slA y.1.1 p.deps, slA y.2.1 p.l, capA y.2.2 p.l.length]) (fun i => p.deps.length - i.1.1) ⟨(0, 0), Nat.zero_le _, by simp, by simp, fun _ => rfl, fun h => by simp at h⟩ (wk0 Φ Ω) ?_
       rintro ⟨⟨k, la⟩, hk, hkk, hz, hz0, hs⟩
       refine cmono (S' := St M0 F0 w0 88 [(1, .pointer (some ⟨b1, 0, none⟩)), (3, .int .i64 (k : Int))] [box b1 25 (Rp.enc p y)] [slA y.1.1 p.deps, slA y.2.1 p.l, capA y.2.2 p.l.length]) Ħ ?_
       refine k_ 10 ?_
       refine cc rfl ?_ ?_
       ·
        intro h40
        dsimp only at hk hkk hz hz0 hs
        try simp only [nrmZ] at h40
        have hk1 : k < p.deps.length := by omega
        rw [depsOk_drop hk1] at hkk
        refine k_ 5 ?_
        have hcase : (p.deps[k] < 1) ∨ (¬ p.deps[k] < 1 ∧ 1000000000 < p.deps[k]) ∨ (¬ p.deps[k] < 1 ∧ ¬ 1000000000 < p.deps[k] ∧ p.deps[k] = p.id) ∨ (¬ p.deps[k] < 1 ∧ ¬ 1000000000 < p.deps[k] ∧ ¬ p.deps[k] = p.id ∧ k = 0) ∨ (¬ p.deps[k] < 1 ∧ ¬ 1000000000 < p.deps[k] ∧ ¬ p.deps[k] = p.id ∧ 0 < k ∧ p.deps[k] ≤ la) ∨ (¬ p.deps[k] < 1 ∧ ¬ 1000000000 < p.deps[k] ∧ ¬ p.deps[k] = p.id ∧ 0 < k ∧ ¬ p.deps[k] ≤ la) := by omega
        rcases hcase with g1 | ⟨g1, g2⟩ | ⟨g1, g2, g3⟩ | ⟨g1, g2, g3, g4⟩ | ⟨g1, g2, g3, g4, g5⟩ | ⟨g1, g2, g3, g4, g5⟩
        ·
         refine elC Θ k (List.getElem?_eq_getElem (l := p.deps) hk1) ?_; rintro zbp zop zyp hAp
         refine cd [] [(1, b1, 2, _), (4, zbp, zop + k * Rp.size Int, _)] TryzX.mixed (TOk.t (isBoxS Θ (k := 1) Δ) (TOk.t (isInS Θ (k := 0) rfl (z := 1) Δ) TOk.d)) ?_
         refine u_ 0 3 ?_
         refine tk 3 rfl Ψ Υ gnone (TTany _) (p_ia k hAp hk1 rfl underlying22 sizeOf3 rfl rfl) rfl ?_
         refine u_ 4 2 ?_
         rw [show decide (p.deps[k] < 1) = true from decide_eq_true g1]
         refine u_ 6 22 ?_
         refine tksu 28 rfl Ψ Υ rfl rfl rfl rfl ?_
         refine tksu 29 rfl Ψ Υ rfl rfl rfl rfl ?_
         refine tksu 30 rfl Ψ Υ rfl rfl rfl rfl ?_
         refine tksu 31 rfl Ψ Υ rfl rfl rfl rfl ?_
         refine tksu 32 rfl Ψ Υ rfl rfl rfl rfl ?_
         refine tksu 33 rfl Ψ Υ rfl rfl rfl rfl ?_
         refine tksu 34 rfl Ψ Υ rfl rfl rfl rfl ?_
         refine tksu 35 rfl Ψ Υ rfl rfl rfl rfl ?_
         refine tksu 36 rfl Ψ Υ rfl rfl rfl rfl ?_
         refine tksu 37 rfl Ψ Υ rfl rfl rfl rfl ?_
         refine tksu 38 rfl Ψ Υ rfl rfl rfl rfl ?_
         refine tksu 39 rfl Ψ Υ rfl rfl rfl rfl ?_
         refine u_ 40 2 ?_
         refine dn Ψ ?_
         refine k_ 1 ?_
         refine cc rfl (fun h => ?_) (fun h => by cases h)
         refine k_ 7 ?_
         refine rret (is := []) () (Or.inl rfl) (Res.t rfl Res.d) ?_ rfl Ω
         simp only [packV]; rw [right_f3 (by rw [hkk]; grind)]
        ·
         refine elC Θ k (List.getElem?_eq_getElem (l := p.deps) hk1) ?_; rintro zbp zop zyp hAp
         refine cd [] [(1, b1, 2, _), (4, zbp, zop + k * Rp.size Int, _), (8, b1, 2, _), (11, zbp, zop + k * Rp.size Int, _)] TryzX.mixed (TOk.t (isBoxS Θ (k := 1) Δ) (TOk.t (isInS Θ (k := 0) rfl (z := 1) Δ) (TOk.t (isBoxS Θ (k := 1) Δ) (TOk.t (isInS Θ (k := 0) rfl (z := 1) Δ) TOk.d)))) ?_
         refine u_ 0 3 ?_
         refine tk 3 rfl Ψ Υ gnone (TTany _) (p_ia k hAp hk1 rfl underlying22 sizeOf3 rfl rfl) rfl ?_
         refine u_ 4 2 ?_
         rw [show decide (p.deps[k] < 1) = false from decide_eq_false g1]
         refine u_ 6 2 ?_
         refine tk 8 rfl Ψ Υ (gyes rfl rfl rfl rfl) (TTat (List.Mem.tail _ (List.Mem.tail _ (List.Mem.head _)))) (gpu (p_ld isAgg22 rfl)) rfl ?_
         refine u_ 9 1 ?_
         refine tk 10 rfl Ψ Υ (gyes rfl rfl rfl rfl) (TTany _) (gpu (p_ia k hAp hk1 rfl underlying22 sizeOf3 rfl rfl)) rfl ?_
         refine tk 11 rfl Ψ Υ (gyes rfl rfl rfl rfl) (TTat (List.Mem.tail _ (List.Mem.tail _ (List.Mem.tail _ (List.Mem.head _))))) (gpu (p_ld isAgg3 rfl)) rfl ?_
         refine u_ 12 1 ?_
         rw [show decide ((1000000000 : Int) < p.deps[k]) = true from decide_eq_true g2]
         refine u_ 13 15 ?_
         refine tksu 28 rfl Ψ Υ rfl rfl rfl rfl ?_
         refine tksu 29 rfl Ψ Υ rfl rfl rfl rfl ?_
         refine tksu 30 rfl Ψ Υ rfl rfl rfl rfl ?_
         refine tksu 31 rfl Ψ Υ rfl rfl rfl rfl ?_
         refine tksu 32 rfl Ψ Υ rfl rfl rfl rfl ?_
         refine tksu 33 rfl Ψ Υ rfl rfl rfl rfl ?_
         refine tksu 34 rfl Ψ Υ rfl rfl rfl rfl ?_
         refine tksu 35 rfl Ψ Υ rfl rfl rfl rfl ?_
         refine tksu 36 rfl Ψ Υ rfl rfl rfl rfl ?_
         refine tksu 37 rfl Ψ Υ rfl rfl rfl rfl ?_
         refine tksu 38 rfl Ψ Υ rfl rfl rfl rfl ?_
         refine tksu 39 rfl Ψ Υ rfl rfl rfl rfl ?_
         refine u_ 40 2 ?_
         refine dn Ψ ?_
         refine k_ 1 ?_
         refine cc rfl (fun h => ?_) (fun h => by cases h)
         refine k_ 7 ?_
         refine rret (is := []) () (Or.inl rfl) (Res.t rfl Res.d) ?_ rfl Ω
         simp only [packV]; rw [right_f3 (by rw [hkk]; grind)]
        ·
         refine elC Θ k (List.getElem?_eq_getElem (l := p.deps) hk1) ?_; rintro zbp zop zyp hAp
         refine cd [] [(1, b1, 2, _), (4, zbp, zop + k * Rp.size Int, _), (8, b1, 2, _), (11, zbp, zop + k * Rp.size Int, _), (16, b1, 2, _), (19, zbp, zop + k * Rp.size Int, _), (21, b1, 0, _)] TryzX.mixed (TOk.t (isBoxS Θ (k := 1) Δ) (TOk.t (isInS Θ (k := 0) rfl (z := 1) Δ) (TOk.t (isBoxS Θ (k := 1) Δ) (TOk.t (isInS Θ (k := 0) rfl (z := 1) Δ) (TOk.t (isBoxS Θ (k := 1) Δ) (TOk.t (isInS Θ (k := 0) rfl (z := 1) Δ) (TOk.t (isBoxS Θ (k := 1) Δ) TOk.d))))))) ?_
         refine u_ 0 3 ?_
         refine tk 3 rfl Ψ Υ gnone (TTany _) (p_ia k hAp hk1 rfl underlying22 sizeOf3 rfl rfl) rfl ?_
         refine u_ 4 2 ?_
         rw [show decide (p.deps[k] < 1) = false from decide_eq_false g1]
         refine u_ 6 2 ?_
         refine tk 8 rfl Ψ Υ (gyes rfl rfl rfl rfl) (TTat (List.Mem.tail _ (List.Mem.tail _ (List.Mem.head _)))) (gpu (p_ld isAgg22 rfl)) rfl ?_
         refine u_ 9 1 ?_
         refine tk 10 rfl Ψ Υ (gyes rfl rfl rfl rfl) (TTany _) (gpu (p_ia k hAp hk1 rfl underlying22 sizeOf3 rfl rfl)) rfl ?_
         refine tk 11 rfl Ψ Υ (gyes rfl rfl rfl rfl) (TTat (List.Mem.tail _ (List.Mem.tail _ (List.Mem.tail _ (List.Mem.head _))))) (gpu (p_ld isAgg3 rfl)) rfl ?_
         refine u_ 12 1 ?_
         rw [show decide ((1000000000 : Int) < p.deps[k]) = false from decide_eq_false g2]
         refine u_ 13 3 ?_
         refine tk 16 rfl Ψ Υ (gyes rfl rfl rfl rfl) (TTat (List.Mem.tail _ (List.Mem.tail _ (List.Mem.tail _ (List.Mem.tail _ (List.Mem.head _)))))) (gpu (p_ld isAgg22 rfl)) rfl ?_
         refine u_ 17 1 ?_
         refine tk 18 rfl Ψ Υ (gyes rfl rfl rfl rfl) (TTany _) (gpu (p_ia k hAp hk1 rfl underlying22 sizeOf3 rfl rfl)) rfl ?_
         refine tk 19 rfl Ψ Υ (gyes rfl rfl rfl rfl) (TTat (List.Mem.tail _ (List.Mem.tail _ (List.Mem.tail _ (List.Mem.tail _ (List.Mem.tail _ (List.Mem.head _))))))) (gpu (p_ld isAgg3 rfl)) rfl ?_
         refine u_ 20 1 ?_
         refine tk 21 rfl Ψ Υ (gyes rfl rfl rfl rfl) (TTat (List.Mem.tail _ (List.Mem.tail _ (List.Mem.tail _ (List.Mem.tail _ (List.Mem.tail _ (List.Mem.tail _ (List.Mem.head _)))))))) (gpu (p_ld isAgg3 rfl)) rfl ?_
         refine u_ 22 1 ?_
         rw [show decide (p.deps[k] = p.id) = true from decide_eq_true g3]
         refine u_ 23 5 ?_
         refine tksu 28 rfl Ψ Υ rfl rfl rfl rfl ?_
         refine tksu 29 rfl Ψ Υ rfl rfl rfl rfl ?_
         refine tksu 30 rfl Ψ Υ rfl rfl rfl rfl ?_
         refine tksu 31 rfl Ψ Υ rfl rfl rfl rfl ?_
         refine tksu 32 rfl Ψ Υ rfl rfl rfl rfl ?_
         refine tksu 33 rfl Ψ Υ rfl rfl rfl rfl ?_
         refine tksu 34 rfl Ψ Υ rfl rfl rfl rfl ?_
         refine tksu 35 rfl Ψ Υ rfl rfl rfl rfl ?_
         refine tksu 36 rfl Ψ Υ rfl rfl rfl rfl ?_
         refine tksu 37 rfl Ψ Υ rfl rfl rfl rfl ?_
         refine tksu 38 rfl Ψ Υ rfl rfl rfl rfl ?_
         refine tksu 39 rfl Ψ Υ rfl rfl rfl rfl ?_
         refine u_ 40 2 ?_
         refine dn Ψ ?_
         refine k_ 1 ?_
         refine cc rfl (fun h => ?_) (fun h => by cases h)
         refine k_ 7 ?_
         refine rret (is := []) () (Or.inl rfl) (Res.t rfl Res.d) ?_ rfl Ω
         simp only [packV]; rw [right_f3 (by rw [hkk]; grind)]
        ·
         refine elC Θ k (List.getElem?_eq_getElem (l := p.deps) hk1) ?_; rintro zbp zop zyp hAp
         refine cd [] [(1, b1, 2, _), (4, zbp, zop + k * Rp.size Int, _), (8, b1, 2, _), (11, zbp, zop + k * Rp.size Int, _), (16, b1, 2, _), (19, zbp, zop + k * Rp.size Int, _), (21, b1, 0, _)] TryzX.mixed (TOk.t (isBoxS Θ (k := 1) Δ) (TOk.t (isInS Θ (k := 0) rfl (z := 1) Δ) (TOk.t (isBoxS Θ (k := 1) Δ) (TOk.t (isInS Θ (k := 0) rfl (z := 1) Δ) (TOk.t (isBoxS Θ (k := 1) Δ) (TOk.t (isInS Θ (k := 0) rfl (z := 1) Δ) (TOk.t (isBoxS Θ (k := 1) Δ) TOk.d))))))) ?_
         refine u_ 0 3 ?_
         refine tk 3 rfl Ψ Υ gnone (TTany _) (p_ia k hAp hk1 rfl underlying22 sizeOf3 rfl rfl) rfl ?_
         refine u_ 4 2 ?_
         rw [show decide (p.deps[k] < 1) = false from decide_eq_false g1]
         refine u_ 6 2 ?_
         refine tk 8 rfl Ψ Υ (gyes rfl rfl rfl rfl) (TTat (List.Mem.tail _ (List.Mem.tail _ (List.Mem.head _)))) (gpu (p_ld isAgg22 rfl)) rfl ?_
         refine u_ 9 1 ?_
         refine tk 10 rfl Ψ Υ (gyes rfl rfl rfl rfl) (TTany _) (gpu (p_ia k hAp hk1 rfl underlying22 sizeOf3 rfl rfl)) rfl ?_
         refine tk 11 rfl Ψ Υ (gyes rfl rfl rfl rfl) (TTat (List.Mem.tail _ (List.Mem.tail _ (List.Mem.tail _ (List.Mem.head _))))) (gpu (p_ld isAgg3 rfl)) rfl ?_
         refine u_ 12 1 ?_
         rw [show decide ((1000000000 : Int) < p.deps[k]) = false from decide_eq_false g2]
         refine u_ 13 3 ?_
         refine tk 16 rfl Ψ Υ (gyes rfl rfl rfl rfl) (TTat (List.Mem.tail _ (List.Mem.tail _ (List.Mem.tail _ (List.Mem.tail _ (List.Mem.head _)))))) (gpu (p_ld isAgg22 rfl)) rfl ?_
         refine u_ 17 1 ?_
         refine tk 18 rfl Ψ Υ (gyes rfl rfl rfl rfl) (TTany _) (gpu (p_ia k hAp hk1 rfl underlying22 sizeOf3 rfl rfl)) rfl ?_
         refine tk 19 rfl Ψ Υ (gyes rfl rfl rfl rfl) (TTat (List.Mem.tail _ (List.Mem.tail _ (List.Mem.tail _ (List.Mem.tail _ (List.Mem.tail _ (List.Mem.head _))))))) (gpu (p_ld isAgg3 rfl)) rfl ?_
         refine u_ 20 1 ?_
         refine tk 21 rfl Ψ Υ (gyes rfl rfl rfl rfl) (TTat (List.Mem.tail _ (List.Mem.tail _ (List.Mem.tail _ (List.Mem.tail _ (List.Mem.tail _ (List.Mem.tail _ (List.Mem.head _)))))))) (gpu (p_ld isAgg3 rfl)) rfl ?_
         refine u_ 22 1 ?_
         rw [show decide (p.deps[k] = p.id) = false from decide_eq_false g3]
         refine u_ 23 4 ?_
         rw [show decide ((0 : Int) < (k : Int)) = false from decide_eq_false (by omega)]
         refine u_ 27 15 ?_
         refine dn Ψ ?_
         refine k_ 1 ?_
         refine cc rfl (fun h => by cases h) (fun h => ?_)
         refine k_ 8 ?_
         refine nnext ⟨(k + 1, p.deps[k]), hk1, by rw [hkk]; grind, by dsimp only; omega, fun h => by simp at h, fun _ => List.getElem?_eq_getElem hk1⟩ (by dsimp only; omega) (wk0 Φ Ω)
        ·
         have hk2 := hs g4
         refine elC Θ (k - 1) (hk2) ?_; rintro zbq zoq zyq hAq
         refine elC Θ k (List.getElem?_eq_getElem (l := p.deps) hk1) ?_; rintro zbp zop zyp hAp
         refine cd [] [(1, b1, 2, _), (4, zbp, zop + k * Rp.size Int, _), (8, b1, 2, _), (11, zbp, zop + k * Rp.size Int, _), (16, b1, 2, _), (19, zbp, zop + k * Rp.size Int, _), (21, b1, 0, _), (29, b1, 2, _), (32, zbp, zop + k * Rp.size Int, _), (34, b1, 2, _), (38, zbq, zoq + (k - 1) * Rp.size Int, _)] TryzX.mixed (TOk.t (isBoxS Θ (k := 1) Δ) (TOk.t (isInS Θ (k := 0) rfl (z := 1) Δ) (TOk.t (isBoxS Θ (k := 1) Δ) (TOk.t (isInS Θ (k := 0) rfl (z := 1) Δ) (TOk.t (isBoxS Θ (k := 1) Δ) (TOk.t (isInS Θ (k := 0) rfl (z := 1) Δ) (TOk.t (isBoxS Θ (k := 1) Δ) (TOk.t (isBoxS Θ (k := 1) Δ) (TOk.t (isInS Θ (k := 0) rfl (z := 1) Δ) (TOk.t (isBoxS Θ (k := 1) Δ) (TOk.t (isInS Θ (k := 0) rfl (z := 1) Δ) TOk.d))))))))))) ?_
         refine u_ 0 3 ?_
         refine tk 3 rfl Ψ Υ gnone (TTany _) (p_ia k hAp hk1 rfl underlying22 sizeOf3 rfl rfl) rfl ?_
         refine u_ 4 2 ?_
         rw [show decide (p.deps[k] < 1) = false from decide_eq_false g1]
         refine u_ 6 2 ?_
         refine tk 8 rfl Ψ Υ (gyes rfl rfl rfl rfl) (TTat (List.Mem.tail _ (List.Mem.tail _ (List.Mem.head _)))) (gpu (p_ld isAgg22 rfl)) rfl ?_
         refine u_ 9 1 ?_
         refine tk 10 rfl Ψ Υ (gyes rfl rfl rfl rfl) (TTany _) (gpu (p_ia k hAp hk1 rfl underlying22 sizeOf3 rfl rfl)) rfl ?_
         refine tk 11 rfl Ψ Υ (gyes rfl rfl rfl rfl) (TTat (List.Mem.tail _ (List.Mem.tail _ (List.Mem.tail _ (List.Mem.head _))))) (gpu (p_ld isAgg3 rfl)) rfl ?_
         refine u_ 12 1 ?_
         rw [show decide ((1000000000 : Int) < p.deps[k]) = false from decide_eq_false g2]
         refine u_ 13 3 ?_
         refine tk 16 rfl Ψ Υ (gyes rfl rfl rfl rfl) (TTat (List.Mem.tail _ (List.Mem.tail _ (List.Mem.tail _ (List.Mem.tail _ (List.Mem.head _)))))) (gpu (p_ld isAgg22 rfl)) rfl ?_
         refine u_ 17 1 ?_
         refine tk 18 rfl Ψ Υ (gyes rfl rfl rfl rfl) (TTany _) (gpu (p_ia k hAp hk1 rfl underlying22 sizeOf3 rfl rfl)) rfl ?_
         refine tk 19 rfl Ψ Υ (gyes rfl rfl rfl rfl) (TTat (List.Mem.tail _ (List.Mem.tail _ (List.Mem.tail _ (List.Mem.tail _ (List.Mem.tail _ (List.Mem.head _))))))) (gpu (p_ld isAgg3 rfl)) rfl ?_
         refine u_ 20 1 ?_
         refine tk 21 rfl Ψ Υ (gyes rfl rfl rfl rfl) (TTat (List.Mem.tail _ (List.Mem.tail _ (List.Mem.tail _ (List.Mem.tail _ (List.Mem.tail _ (List.Mem.tail _ (List.Mem.head _)))))))) (gpu (p_ld isAgg3 rfl)) rfl ?_
         refine u_ 22 1 ?_
         rw [show decide (p.deps[k] = p.id) = false from decide_eq_false g3]
         refine u_ 23 4 ?_
         rw [show decide ((0 : Int) < (k : Int)) = true from decide_eq_true (by omega)]
         refine u_ 27 2 ?_
         refine tk 29 rfl Ψ Υ (gyes rfl rfl rfl rfl) (TTat (List.Mem.tail _ (List.Mem.tail _ (List.Mem.tail _ (List.Mem.tail _ (List.Mem.tail _ (List.Mem.tail _ (List.Mem.tail _ (List.Mem.head _))))))))) (gpu (p_ld isAgg22 rfl)) rfl ?_
         refine u_ 30 1 ?_
         refine tk 31 rfl Ψ Υ (gyes rfl rfl rfl rfl) (TTany _) (gpu (p_ia k hAp hk1 rfl underlying22 sizeOf3 rfl rfl)) rfl ?_
         refine tk 32 rfl Ψ Υ (gyes rfl rfl rfl rfl) (TTat (List.Mem.tail _ (List.Mem.tail _ (List.Mem.tail _ (List.Mem.tail _ (List.Mem.tail _ (List.Mem.tail _ (List.Mem.tail _ (List.Mem.tail _ (List.Mem.head _)))))))))) (gpu (p_ld isAgg3 rfl)) rfl ?_
         refine u_ 33 1 ?_
         refine tk 34 rfl Ψ Υ (gyes rfl rfl rfl rfl) (TTat (List.Mem.tail _ (List.Mem.tail _ (List.Mem.tail _ (List.Mem.tail _ (List.Mem.tail _ (List.Mem.tail _ (List.Mem.tail _ (List.Mem.tail _ (List.Mem.tail _ (List.Mem.head _))))))))))) (gpu (p_ld isAgg22 rfl)) rfl ?_
         refine u_ 35 2 ?_
         refine tk 37 rfl Ψ Υ (gyes rfl rfl rfl rfl) (TTany _) (gpu (p_ia (k - 1) hAq (by omega) (by omega) underlying22 sizeOf3 rfl rfl)) rfl ?_
         refine tk 38 rfl Ψ Υ (gyes rfl rfl rfl rfl) (TTat (List.Mem.tail _ (List.Mem.tail _ (List.Mem.tail _ (List.Mem.tail _ (List.Mem.tail _ (List.Mem.tail _ (List.Mem.tail _ (List.Mem.tail _ (List.Mem.tail _ (List.Mem.tail _ (List.Mem.head _)))))))))))) (gpu (p_ld isAgg3 rfl)) rfl ?_
         refine u_ 39 1 ?_
         rw [show decide (p.deps[k] ≤ la) = true from decide_eq_true g5]
         refine u_ 40 2 ?_
         refine dn Ψ ?_
         refine k_ 1 ?_
         refine cc rfl (fun h => ?_) (fun h => by cases h)
         refine k_ 7 ?_
         refine rret (is := []) () (Or.inl rfl) (Res.t rfl Res.d) ?_ rfl Ω
         simp only [packV]; rw [right_f3 (by rw [hkk]; grind)]
        ·
         have hk2 := hs g4
         refine elC Θ (k - 1) (hk2) ?_; rintro zbq zoq zyq hAq
         refine elC Θ k (List.getElem?_eq_getElem (l := p.deps) hk1) ?_; rintro zbp zop zyp hAp
         refine cd [] [(1, b1, 2, _), (4, zbp, zop + k * Rp.size Int, _), (8, b1, 2, _), (11, zbp, zop + k * Rp.size Int, _), (16, b1, 2, _), (19, zbp, zop + k * Rp.size Int, _), (21, b1, 0, _), (29, b1, 2, _), (32, zbp, zop + k * Rp.size Int, _), (34, b1, 2, _), (38, zbq, zoq + (k - 1) * Rp.size Int, _)] TryzX.mixed (TOk.t (isBoxS Θ (k := 1) Δ) (TOk.t (isInS Θ (k := 0) rfl (z := 1) Δ) (TOk.t (isBoxS Θ (k := 1) Δ) (TOk.t (isInS Θ (k := 0) rfl (z := 1) Δ) (TOk.t (isBoxS Θ (k := 1) Δ) (TOk.t (isInS Θ (k := 0) rfl (z := 1) Δ) (TOk.t (isBoxS Θ (k := 1) Δ) (TOk.t (isBoxS Θ (k := 1) Δ) (TOk.t (isInS Θ (k := 0) rfl (z := 1) Δ) (TOk.t (isBoxS Θ (k := 1) Δ) (TOk.t (isInS Θ (k := 0) rfl (z := 1) Δ) TOk.d))))))))))) ?_
         refine u_ 0 3 ?_
         refine tk 3 rfl Ψ Υ gnone (TTany _) (p_ia k hAp hk1 rfl underlying22 sizeOf3 rfl rfl) rfl ?_
         refine u_ 4 2 ?_
         rw [show decide (p.deps[k] < 1) = false from decide_eq_false g1]
         refine u_ 6 2 ?_
         refine tk 8 rfl Ψ Υ (gyes rfl rfl rfl rfl) (TTat (List.Mem.tail _ (List.Mem.tail _ (List.Mem.head _)))) (gpu (p_ld isAgg22 rfl)) rfl ?_
         refine u_ 9 1 ?_
         refine tk 10 rfl Ψ Υ (gyes rfl rfl rfl rfl) (TTany _) (gpu (p_ia k hAp hk1 rfl underlying22 sizeOf3 rfl rfl)) rfl ?_
         refine tk 11 rfl Ψ Υ (gyes rfl rfl rfl rfl) (TTat (List.Mem.tail _ (List.Mem.tail _ (List.Mem.tail _ (List.Mem.head _))))) (gpu (p_ld isAgg3 rfl)) rfl ?_
         refine u_ 12 1 ?_
         rw [show decide ((1000000000 : Int) < p.deps[k]) = false from decide_eq_false g2]
         refine u_ 13 3 ?_
         refine tk 16 rfl Ψ Υ (gyes rfl rfl rfl rfl) (TTat (List.Mem.tail _ (List.Mem.tail _ (List.Mem.tail _ (List.Mem.tail _ (List.Mem.head _)))))) (gpu (p_ld isAgg22 rfl)) rfl ?_
         refine u_ 17 1 ?_
         refine tk 18 rfl Ψ Υ (gyes rfl rfl rfl rfl) (TTany _) (gpu (p_ia k hAp hk1 rfl underlying22 sizeOf3 rfl rfl)) rfl ?_
         refine tk 19 rfl Ψ Υ (gyes rfl rfl rfl rfl) (TTat (List.Mem.tail _ (List.Mem.tail _ (List.Mem.tail _ (List.Mem.tail _ (List.Mem.tail _ (List.Mem.head _))))))) (gpu (p_ld isAgg3 rfl)) rfl ?_
         refine u_ 20 1 ?_
         refine tk 21 rfl Ψ Υ (gyes rfl rfl rfl rfl) (TTat (List.Mem.tail _ (List.Mem.tail _ (List.Mem.tail _ (List.Mem.tail _ (List.Mem.tail _ (List.Mem.tail _ (List.Mem.head _)))))))) (gpu (p_ld isAgg3 rfl)) rfl ?_
         refine u_ 22 1 ?_
         rw [show decide (p.deps[k] = p.id) = false from decide_eq_false g3]
         refine u_ 23 4 ?_
         rw [show decide ((0 : Int) < (k : Int)) = true from decide_eq_true (by omega)]
         refine u_ 27 2 ?_
         refine tk 29 rfl Ψ Υ (gyes rfl rfl rfl rfl) (TTat (List.Mem.tail _ (List.Mem.tail _ (List.Mem.tail _ (List.Mem.tail _ (List.Mem.tail _ (List.Mem.tail _ (List.Mem.tail _ (List.Mem.head _))))))))) (gpu (p_ld isAgg22 rfl)) rfl ?_
         refine u_ 30 1 ?_
         refine tk 31 rfl Ψ Υ (gyes rfl rfl rfl rfl) (TTany _) (gpu (p_ia k hAp hk1 rfl underlying22 sizeOf3 rfl rfl)) rfl ?_
         refine tk 32 rfl Ψ Υ (gyes rfl rfl rfl rfl) (TTat (List.Mem.tail _ (List.Mem.tail _ (List.Mem.tail _ (List.Mem.tail _ (List.Mem.tail _ (List.Mem.tail _ (List.Mem.tail _ (List.Mem.tail _ (List.Mem.head _)))))))))) (gpu (p_ld isAgg3 rfl)) rfl ?_
         refine u_ 33 1 ?_
         refine tk 34 rfl Ψ Υ (gyes rfl rfl rfl rfl) (TTat (List.Mem.tail _ (List.Mem.tail _ (List.Mem.tail _ (List.Mem.tail _ (List.Mem.tail _ (List.Mem.tail _ (List.Mem.tail _ (List.Mem.tail _ (List.Mem.tail _ (List.Mem.head _))))))))))) (gpu (p_ld isAgg22 rfl)) rfl ?_
         refine u_ 35 2 ?_
         refine tk 37 rfl Ψ Υ (gyes rfl rfl rfl rfl) (TTany _) (gpu (p_ia (k - 1) hAq (by omega) (by omega) underlying22 sizeOf3 rfl rfl)) rfl ?_
         refine tk 38 rfl Ψ Υ (gyes rfl rfl rfl rfl) (TTat (List.Mem.tail _ (List.Mem.tail _ (List.Mem.tail _ (List.Mem.tail _ (List.Mem.tail _ (List.Mem.tail _ (List.Mem.tail _ (List.Mem.tail _ (List.Mem.tail _ (List.Mem.tail _ (List.Mem.head _)))))))))))) (gpu (p_ld isAgg3 rfl)) rfl ?_
         refine u_ 39 1 ?_
         rw [show decide (p.deps[k] ≤ la) = false from decide_eq_false g5]
         refine u_ 40 2 ?_
         refine dn Ψ ?_
         refine k_ 1 ?_
         refine cc rfl (fun h => by cases h) (fun h => ?_)
         refine k_ 8 ?_
         refine nnext ⟨(k + 1, p.deps[k]), hk1, by rw [hkk]; grind, by dsimp only; omega, fun h => by simp at h, fun _ => List.getElem?_eq_getElem hk1⟩ (by dsimp only; omega) (wk0 Φ Ω)
       ·
        intro h40
        dsimp only at hk hkk hz hz0 hs
        try simp only [nrmZ] at h40
        refine k_ 9 ?_
        refine lC [] call14 (c_ref5Right p.l _ _ hp.ll hp.lf) ?_; intro x87
        refine k_ 5 ?_
        refine rret (is := []) () (Or.inl rfl) (Res.t rfl Res.d) ?_ rfl Ω
        simp only [packV]; rw [right_g2 h35 (by rw [hkk, List.drop_eq_nil_of_le (by omega)]; rfl)]
set_option maxRecDepth 100000 in
theorem c_rSame (p q : Patch) (yp yq : Rp.Lay Patch) (hp : p.fit) (hq : q.fit) : Con Tryz.prog 10 [sv p yp, sv q yq] [] [slA yp.1.1 p.deps, slA yp.2.1 p.l, capA yp.2.2 p.l.length, slA yq.1.1 q.deps, slA yq.2.1 q.l, capA yq.2.2 q.l.length] Unit (fun _ => .bool (decide (p = q))) (fun _ => []) (fun _ => []) := by
 refine con func10 rfl ntmps10 rfl ?_
 intro M0 F0 w0
 refine k_ 2 ?_
 refine ls (o_box rfl rfl rfl) ?_
 refine le ?_; intro b2
 refine ls (o_box rfl rfl rfl) ?_
 refine le ?_; intro b3
 refine k_ 5 ?_
 have hdl := hp.dl
 refine k_ 7 ?_
 refine orX 6 11 17 rfl (sL [0, 1, 2, 3, 4]) ?_ ?_
 ·
  intro h11
  refine k_ 6 ?_
  refine ln (nmid (wk0 Φ Ω))
 apply exI
 ·
  intro h11
  refine k_ 6 ?_
  refine ln (nmid (wk0 Φ Ω))
 ·
  refine k_ 1 ?_
  refine orX 8 18 26 rfl (sL [0, 1, 2, 3, 4]) ?_ ?_
  ·
   intro h18
   refine k_ 8 ?_
   refine ln (nmid (wk0 Φ Ω))
  apply exI
  ·
   intro h18
   refine k_ 8 ?_
   refine ln (nmid (wk0 Φ Ω))
  ·
   refine k_ 2 ?_
   refine cc rfl ?_ ?_
   ·
    intro h26
    try simp only [nrmZ] at h26
    refine k_ 7 ?_
    refine rret (is := []) () (Or.inl rfl) (Res.t rfl Res.d) ?_ rfl Ω
    simp only [packV]; rw [decide_eq_false (rsame_t h26)]
   ·
    intro h26
    try simp only [nrmZ] at h26
    refine k_ 9 ?_
    refine cl (ι := {k : Nat // k ≤ p.deps.length ∧ p.deps.take k = q.deps.take k}) (fun i => St M0 F0 w0 50 [(2, .pointer (some ⟨b2, 0, none⟩)), (3, .pointer (some ⟨b3, 0, none⟩)), (5, .int .i64 (i.1 : Int))] [box b2 25 (Rp.enc p yp), box b3 25 (Rp.enc q yq)] [slA yp.1.1 p.deps, slA yp.2.1 p.l, capA yp.2.2 p.l.length, slA yq.1.1 q.deps, slA yq.2.1 q.l, capA yq.2.2 q.l.length]) (fun i => p.deps.length - i.1) ⟨0, by simp⟩ (wK [1, 0]) ?_
    rintro ⟨k, hk, hkk⟩
    refine cmono (S' := St M0 F0 w0 50 [(2, .pointer (some ⟨b2, 0, none⟩)), (3, .pointer (some ⟨b3, 0, none⟩)), (5, .int .i64 (k : Int))] [box b2 25 (Rp.enc p yp), box b3 25 (Rp.enc q yq)] [slA yp.1.1 p.deps, slA yp.2.1 p.l, capA yp.2.2 p.l.length, slA yq.1.1 q.deps, slA yq.2.1 q.l, capA yq.2.2 q.l.length]) Ħ ?_
    refine k_ 10 ?_
    refine cc rfl ?_ ?_
    ·
     intro h31
     try simp only [nrmZ] at h31
     have hsm := rsame_f h26
     have hk1 : k < p.deps.length := by omega
     have hk2 : k < q.deps.length := by omega
     refine k_ 5 ?_
     refine elC Θ k (List.getElem?_eq_getElem (l := p.deps) hk1) ?_; rintro zbp zop zyp hAp
     refine elC Θ k (List.getElem?_eq_getElem (l := q.deps) hk2) ?_; rintro zbq zoq zyq hAq
     refine cd [] [(1, b2, 2, _), (4, zbp, zop + k * Rp.size Int, _), (6, b3, 2, _), (9, zbq, zoq + k * Rp.size Int, _)] TryzX.mixed (TOk.t (isBoxS Θ (k := 1) Δ) (TOk.t (isInS Θ (k := 0) rfl (z := 1) Δ) (TOk.t (isBoxS Θ (k := 1) Δ) (TOk.t (isInS Θ (k := 0) rfl (z := 1) Δ) TOk.d)))) ?_
     refine u_ 0 3 ?_
     refine tk 3 rfl Ψ Υ gnone (TTany _) (p_ia k hAp hk1 rfl underlying22 sizeOf3 rfl rfl) rfl ?_
     refine u_ 4 4 ?_
     refine tk 8 rfl Ψ Υ gnone (TTany _) (p_ia k hAq hk2 rfl underlying22 sizeOf3 rfl rfl) rfl ?_
     refine u_ 9 2 ?_
     refine dn Ψ ?_
     refine k_ 1 ?_
     refine cc rfl ?_ ?_
     ·
      intro h44
      try simp only [nrmZ] at h44
      refine k_ 7 ?_
      refine rret (is := []) () (Or.inl rfl) (Res.t rfl Res.d) ?_ rfl Ω
      simp only [packV]; rw [decide_eq_false]; rintro rfl; exact h44 rfl
     ·
      intro h44
      try simp only [nrmZ] at h44
      refine k_ 8 ?_
      refine nnext ⟨k + 1, hk1, by rw [List.take_succ_eq_append_getElem hk1, List.take_succ_eq_append_getElem hk2, hkk, h44]⟩ (by dsimp only; omega) (wk0 Φ Ω)
    ·
     intro h31
     try simp only [nrmZ] at h31
     have hsm := rsame_f h26
     refine k_ 11 ?_
     refine lC [] call24 (c_refAllP p.l q.l _ _ _ _ hp.ll hp.lf) ?_; intro x49
     refine k_ 5 ?_
     refine rret (is := []) () (Or.inl rfl) (Res.t rfl Res.d) ?_ rfl Ω
     simp only [packV]; rw [← dec_patch, hsm.1, hsm.2.1]; have e : p.deps = q.deps := (by have h1 := List.take_of_length_le (l := p.deps) (i := k) (by omega); have h2 := List.take_of_length_le (l := q.deps) (i := k) (by omega); rw [h1, h2] at hkk; exact hkk); simp [e]
end Go.Proofs.YtmikcpaaomamiaaGreatDoor.X
end
section
set_option linter.unusedVariables false
set_option linter.unusedSimpArgs false
namespace Go.Proofs.YtmikcpaaomamiaaGreatDoor.X
open Go Go.RowKit Go.Proofs Go.Sx
open Tryz
attribute [local irreducible] slA isA box row TrL TrC TrN TrA Pu OpR
set_option maxHeartbeats 8000000
abbrev PTwo (f : Patch × Patch × Bool) := { x : (Patch × Patch × Bool) × (Rp.Lay Patch × Rp.Lay Patch) // x.1 = f }
def PTwo.v {f} (x : PTwo f) : Value := .tuple #[sv x.1.1.1 x.1.2.1, sv x.1.1.2.1 x.1.2.2, .bool x.1.1.2.2]
def PTwo.g {f} (x : PTwo f) : List Asn := [slA x.1.2.1.1.1 x.1.1.1.deps, slA x.1.2.1.2.1 x.1.1.1.l, capA x.1.2.1.2.2 x.1.1.1.l.length, slA x.1.2.2.1.1 x.1.1.2.1.deps, slA x.1.2.2.2.1 x.1.1.2.1.l, capA x.1.2.2.2.2 x.1.1.2.1.l.length]
theorem may_t {p q : Patch} (h : (!p.right || !q.right || decide (p.id = q.id) || (q.deps.any fun s => decide (s = p.id)) || (p.deps.any fun s => decide (s = q.id))) = true) : pswap p q = (Patch.zero, Patch.zero, false) := by
 have : pmay p q = false := by
  unfold pmay
  rw [Bool.eq_false_iff]; intro e
  simp only [Bool.and_eq_true, Bool.not_eq_true'] at e
  obtain ⟨⟨⟨⟨e1, e2⟩, e3⟩, e4⟩, e5⟩ := e
  rw [e1, e2, e3, e4, e5] at h
  simp at h
 unfold pswap
 rw [this]; simp
theorem may_f {p q : Patch} (h : (!p.right || !q.right || decide (p.id = q.id) || (q.deps.any fun s => decide (s = p.id)) || (p.deps.any fun s => decide (s = q.id))) = false) : pmay p q = true := by
 unfold pmay
 simp only [Bool.or_eq_false_iff, Bool.not_eq_false'] at h
 obtain ⟨⟨⟨⟨e1, e2⟩, e3⟩, e4⟩, e5⟩ := h
 rw [e1, e2, e3, e4, e5]; rfl
theorem pswap_f {p q : Patch} {f s : List Prim} (h : (f, s, false) = swT p.l q.l) : pswap p q = (Patch.zero, Patch.zero, false) := by
 unfold pswap; rw [← h]; simp
theorem pswap_t {p q : Patch} {f s : List Prim} (hm : pmay p q = true) (h : (f, s, true) = swT p.l q.l) : pswap p q = ({ q with l := f }, { p with l := s }, true) := by
 unfold pswap; rw [← h, hm]; simp
theorem pswap_fit2 {p q a b : Patch} {c : Bool} (h : (a, b, c) = pswap p q) (hp : p.fit) (hq : q.fit) : a.fit ∧ b.fit := by
 have e := pswap_fit hp hq
 rw [← h] at e
 exact e
theorem rep_set {k j : Nat} {rest : List Patch} {b : Patch} {n : Nat} (hk : k + j + 1 = n) : (List.replicate (n - j) Patch.zero ++ rest).set k b = List.replicate (n - (j + 1)) Patch.zero ++ (b :: rest) := by
 rw [show n - j = k + 1 by omega, show n - (j + 1) = k by omega, List.replicate_succ', List.append_assoc, List.singleton_append]
 rw [List.set_append_right _ _ (by simp)]
 simp
theorem inf31 : (Tryz.prog.info? 31).map (fun i => (i.zero, i.size, i.bytes)) = some (some (.agg #[.int .i64 0, .string ⟨#[]⟩, .slice none 0 0, .slice none 0 0]), 4, 72) := by kernel_rfl
set_option maxRecDepth 100000 in
theorem c_nSwap (p q : Patch) (yp yq : Rp.Lay Patch) (hp : p.fit) (hq : q.fit) : Con Tryz.prog 9 [sv p yp, sv q yq] [] [slA yp.1.1 p.deps, slA yp.2.1 p.l, capA yp.2.2 p.l.length, slA yq.1.1 q.deps, slA yq.2.1 q.l, capA yq.2.2 q.l.length] (PTwo (pswap p q)) (fun x => x.v) (fun _ => []) (fun x => x.g) := by
 refine con func9 rfl ntmps9 rfl ?_
 intro M0 F0 w0
 refine k_ 2 ?_
 refine ls (o_box rfl rfl rfl) ?_
 refine le ?_; intro b2
 refine ls (o_box rfl rfl rfl) ?_
 refine le ?_; intro b3
 refine ls (o_alloc zeroValue31 rfl rfl) ?_
 refine le ?_; intro b4
 refine ls (o_alloc zeroValue31 rfl rfl) ?_
 refine le ?_; intro b5
 refine k_ 6 ?_
 refine ls (o_ldw isAgg31 sizeOf31 rfl Θ (by rfl) rfl) ?_
 refine lC [] call19 (c_nRight p yp hp) ?_; intro x10
 refine k_ 2 ?_
 refine orX 4 12 16 rfl (sL [0, 1, 2, 3, 4, 5, 6]) ?_ ?_
 ·
  intro h12
  refine k_ 4 ?_
  refine ln (nmid (wk0 Φ Ω))
 apply exI
 ·
  intro h12
  refine lwant rfl rfl rfl rfl (o_ldw isAgg31 sizeOf31 rfl Θ (by rfl) rfl) ?_
  refine lwant rfl rfl rfl rfl (o_call (is := []) call19 (c_nRight q yq hq) rfl rfl Ω rfl) ?_
  refine le ?_; intro x14
  refine k_ 2 ?_
  refine ln (nmid (wk0 Φ Ω))
 ·
  refine k_ 1 ?_
  refine orX 6 17 23 rfl (sL [0, 1, 2, 3, 4, 5, 6]) ?_ ?_
  ·
   intro h17
   refine k_ 6 ?_
   refine ln (nmid (wk0 Φ Ω))
  apply exI
  ·
   intro h17
   refine k_ 6 ?_
   refine ln (nmid (wk0 Φ Ω))
  ·
   refine k_ 1 ?_
   refine orX 6 24 30 rfl (sL [0, 1, 2, 3, 4, 5, 6]) ?_ ?_
   ·
    intro h24
    refine k_ 6 ?_
    refine ln (nmid (wk0 Φ Ω))
   apply exI
   ·
    intro h24
    refine k_ 4 ?_
    refine lwant rfl rfl rfl rfl (o_call (is := []) call22 (c_ContainsI q.deps _ _ hq.dl p.id) rfl rfl Ω rfl) ?_
    refine le ?_; intro x29
    refine k_ 1 ?_
    refine ln (nmid (wk0 Φ Ω))
   ·
    refine k_ 1 ?_
    refine orX 6 31 37 rfl (sL [0, 1, 2, 3, 4, 5, 6]) ?_ ?_
    ·
     intro h31
     refine k_ 6 ?_
     refine ln (nmid (wk0 Φ Ω))
    apply exI
    ·
     intro h31
     refine k_ 4 ?_
     refine lwant rfl rfl rfl rfl (o_call (is := []) call22 (c_ContainsI p.deps _ _ hp.dl q.id) rfl rfl Ω rfl) ?_
     refine le ?_; intro x36
     refine k_ 1 ?_
     refine ln (nmid (wk0 Φ Ω))
    ·
     refine k_ 2 ?_
     refine cc rfl ?_ ?_
     ·
      intro h37
      try simp only [nrmZ] at h37
      refine cs ?_
      refine cmono (fun a w h => nilC (α := Prim) h) ?_
      refine cmono (fun a w h => nilSl (α := Int) h) ?_
      refine k_ 10 ?_
      refine rret (is := []) ⟨((Patch.zero, Patch.zero, false), (((none, 0), (none, 0)), ((none, 0), (none, 0)))), by rw [may_t h37]⟩ (Or.inl rfl) (Res.c rfl isAgg31 sizeOf31 Θ (by rfl) (Res.c rfl isAgg31 sizeOf31 Θ (by rfl) (Res.t rfl Res.d))) (rfl) rfl Ω
     ·
      intro h37
      try simp only [nrmZ] at h37
      refine k_ 8 ?_
      refine lC [] call23 (c_seqSwap p.l q.l _ _ _ _ hp.ll hq.ll hp.lf hq.lf) ?_; rintro ⟨⟨⟨f, s, b3⟩, ⟨ya, yb⟩⟩, hr⟩
      dsimp only at hr
      refine k_ 16 ?_
      refine cc rfl ?_ ?_
      ·
       intro h50
       obtain rfl : false = b3 := by cases b3 <;> first | rfl | (simp at h50)
       refine cs ?_
       refine cmono (fun a w h => nilC (α := Prim) h) ?_
       refine cmono (fun a w h => nilSl (α := Int) h) ?_
       refine k_ 10 ?_
       refine rret (is := []) ⟨((Patch.zero, Patch.zero, false), (((none, 0), (none, 0)), ((none, 0), (none, 0)))), by rw [pswap_f hr]⟩ (Or.inl rfl) (Res.c rfl isAgg31 sizeOf31 Θ (by rfl) (Res.c rfl isAgg31 sizeOf31 Θ (by rfl) (Res.t rfl Res.d))) (rfl) rfl Ω
      ·
       intro h50
       obtain rfl : true = b3 := by cases b3 <;> first | rfl | (simp at h50)
       have hok := swT_ok hr hp.lf hq.lf
       have hfl := hok.1; have hsl := hok.2.1; have hpl := hp.ll; have hql := hq.ll
       refine k_ 3 ?_
       refine cd [2, 5, 6, 7] [(0, b3, 0, _), (3, b2, 0, _)] TryzX.mixed (TOk.t (isBoxS Θ (k := 4) Δ) (TOk.t (isBoxS Θ (k := 4) Δ) TOk.d)) ?_
       refine u_ 0 2 ?_
       refine u_ 3 2 ?_
       refine df 2 Ψ ?_
       refine doR rfl (o_call (is := []) call20 (c_with q yq hq f ya.1 ya.2 (by omega) hok.2.2.1) rfl rfl Ω rfl) (TOk.x Ψ (TOk.t (isBoxE fun _ => isBoxS Θ (k := 4) Δ) TOk.d)) ?_
       refine ea ?_; intro y55
       refine df 5 Ψ ?_
       refine doR rfl (o_call (is := []) call20 (c_with p yp hp s yb.1 yb.2 (by omega) hok.2.2.2) rfl rfl Ω rfl) tX ?_
       refine ea ?_; intro y58
       refine df 6 Ψ ?_
       refine doR rfl (o_st rfl sizeOf31 rfl rfl rfl rfl rfl Θ Θ Θ) tX ?_
       refine df 7 Ψ ?_
       refine doR rfl (o_st rfl sizeOf31 rfl rfl rfl rfl rfl Θ Θ Θ) tX ?_
       refine u_ 8 1 ?_
       refine dn Ψ ?_
       refine k_ 3 ?_
       refine rret (is := []) ⟨(({ q with l := f }, { p with l := s }, true), (y55, y58)), by rw [pswap_t (may_f h37) hr]⟩ (Or.inl rfl) (Res.c rfl isAgg31 sizeOf31 Θ (by rfl) (Res.c rfl isAgg31 sizeOf31 Θ (by rfl) (Res.t rfl Res.d))) (rfl) rfl Ω
set_option maxRecDepth 100000 in
theorem c_nNeeds (p q : Patch) (yp yq : Rp.Lay Patch) (hp : p.fit) (hq : q.fit) : Con Tryz.prog 18 [sv p yp, sv q yq] [] [slA yp.1.1 p.deps, slA yp.2.1 p.l, capA yp.2.2 p.l.length, slA yq.1.1 q.deps, slA yq.2.1 q.l, capA yq.2.2 q.l.length] Unit (fun _ => .bool (!(pswap p q).2.2)) (fun _ => []) (fun _ => []) := by
 refine con func18 rfl ntmps18 rfl ?_
 intro M0 F0 w0
 refine k_ 2 ?_
 refine ls (o_box rfl rfl rfl) ?_
 refine le ?_; intro b2
 refine ls (o_box rfl rfl rfl) ?_
 refine le ?_; intro b3
 refine k_ 5 ?_
 refine ls (o_ldw isAgg31 sizeOf31 rfl Θ (by rfl) rfl) ?_
 refine ls (o_ldw isAgg31 sizeOf31 rfl Θ (by rfl) rfl) ?_
 refine lC [] call9 (c_nSwap p q yp yq hp hq) ?_; rintro ⟨⟨⟨r1, r2, r3⟩, z1, z2⟩, hr⟩
 obtain ⟨e1, e2⟩ := pswap_fit2 hr hp hq; dsimp only at hr e1 e2
 refine k_ 4 ?_
 refine ls (o_alloc zeroValue31 rfl rfl) ?_
 refine le ?_; intro b5
 refine ls (o_alloc zeroValue31 rfl rfl) ?_
 refine le ?_; intro b6
 refine k_ 14 ?_
 refine rret (is := []) () (Or.inl rfl) (Res.t rfl Res.d) ?_ rfl Ω
 dsimp only [packV]; rw [← hr]
set_option maxRecDepth 100000 in
theorem c_BackwardP (l : List Patch) (A : Option Addr) (c : Nat) : Con Tryz.prog 28 [.slice A l.length c] [] [] Nat (fun b => .func (.func 44) #[] #[.pointer (some ⟨b, 0, none⟩)]) (fun b => [box b 36 [.slice A l.length c]]) (fun _ => []) := by
 refine con func28 rfl ntmps28 rfl ?_
 intro M0 F0 w0
 refine k_ 2 ?_
 refine ls (o_box rfl rfl rfl) ?_
 refine le ?_; intro b1
 refine k_ 5 ?_
 refine ls (op (p_mkf rfl) rfl) ?_
 refine k_ 5 ?_
 exact rR [0] b1
set_option maxRecDepth 100000 in
theorem c_BackwardP1 (l : List Patch) (A : Option Addr) (c : Nat) (hl : l.length ≤ 2000000) (B : Nat) : Iter Tryz.prog 44 [.pointer (some ⟨B, 0, none⟩)] (fun x : {x : Nat × Rp.Lay Patch // x.1 < l.length} => [.int .i64 (x.1.1 : Int), sv (l[x.1.1]'x.2) x.1.2]) (fun x => Rp.asn (l[x.1.1]'x.2) x.1.2) (fun pre x => x.1.1 + pre.length + 1 = l.length) (fun xs => xs.length = l.length) [box B 36 [.slice A l.length c]] [slA A l] := by
 intro lp J Jx hY
 refine con func44 rfl ntmps44 rfl ?_
 intro M0 F0 w0
 refine k_ 9 ?_
 refine cl (ι := {q : List {x : Nat × Rp.Lay Patch // x.1 < l.length} × Int // q.1.length ≤ l.length ∧ q.2 = (l.length : Int) - 1 - (q.1.length : Int)}) (fun i => St M0 F0 w0 19 [(0, .func (.yield lp) #[] #[]), (1, .pointer (some ⟨B, 0, none⟩)), (3, .int .i64 i.1.2)] [J i.1.1, box B 36 [.slice A l.length c]] [slA A l]) (fun i => l.length - (i.1.1).length) ⟨([], (l.length : Int) - 1), Nat.zero_le _, by simp⟩ (wk0 Φ Ω) ?_
 rintro ⟨⟨pre, z⟩, hpre, hz⟩
 refine cmono (S' := St M0 F0 w0 19 [(0, .func (.yield lp) #[] #[]), (1, .pointer (some ⟨B, 0, none⟩)), (3, .int .i64 z)] [J pre, box B 36 [.slice A l.length c]] [slA A l]) Ħ ?_
 refine k_ 7 ?_
 refine cc rfl ?_ ?_
 ·
  intro h8
  dsimp only at hpre hz
  try simp only [nrmZ] at h8
  have hk1 : l.length - 1 - pre.length < l.length := by omega
  refine k_ 5 ?_
  refine elC Θ (l.length - 1 - pre.length) (List.getElem?_eq_getElem (l := l) hk1) ?_; rintro zbp zop zyp hAp
  refine k_ 5 ?_
  refine ls (op (p_ia (l.length - 1 - pre.length) hAp hk1 (by omega) underlying36 sizeOf31 rfl rfl) rfl) ?_
  refine ls (o_ldj isAgg31 sizeOf31 rfl Θ 0 rfl Δ rfl) ?_
  refine ls (o_yield (i := 0) rfl (by have := hY pre ⟨(l.length - 1 - pre.length, zyp), hk1⟩ (by dsimp only; omega); dsimp only at this; rw [show ((l.length - 1 - pre.length : Nat) : Int) = z by omega] at this; exact this) rfl rfl Ω rfl) ?_
  refine le ?_; intro bb
  refine k_ 3 ?_
  refine cc rfl ?_ ?_
  ·
   intro h18
   obtain rfl : false = bb := by cases bb <;> first | rfl | (simp at h18)
   refine k_ 2 ?_
   exact rR [0, 0] ⟨none, fun _ h => by cases h⟩
  ·
   intro h18
   obtain rfl : true = bb := by cases bb <;> first | rfl | (simp at h18)
   refine k_ 8 ?_
   refine nnext ⟨(pre ++ [⟨(l.length - 1 - pre.length, zyp), hk1⟩], z - 1), by simp; omega, by simp; omega⟩ (by simp; omega) (wK [0, 0])
 ·
  intro h8
  dsimp only at hpre hz
  try simp only [nrmZ] at h8
  refine k_ 4 ?_
  exact rR [0, 0] ⟨some pre, fun xs h => by cases h; omega⟩
set_option maxRecDepth 100000 in
theorem c_BackwardR1 (l : List Patch) (A : Option Addr) (c : Nat) (hl : l.length ≤ 2000000) (B : Nat) : Iter Tryz.prog 44 [.pointer (some ⟨B, 0, none⟩)] (fun x : {x : Nat × Rp.Lay Patch // x.1 < l.length} => [.int .i64 (x.1.1 : Int), sv (l[x.1.1]'x.2) x.1.2]) (fun x => Rp.asn (l[x.1.1]'x.2) x.1.2) (fun pre x => x.1.1 + pre.length + 1 = l.length) (fun xs => xs.length = l.length) [box B 36 [.slice A l.length c], row 31 A c l] [] := by
 intro lp J Jx hY
 refine con func44 rfl ntmps44 rfl ?_
 intro M0 F0 w0
 refine k_ 9 ?_
 refine cl (ι := {q : List {x : Nat × Rp.Lay Patch // x.1 < l.length} × Int // q.1.length ≤ l.length ∧ q.2 = (l.length : Int) - 1 - (q.1.length : Int)}) (fun i => St M0 F0 w0 19 [(0, .func (.yield lp) #[] #[]), (1, .pointer (some ⟨B, 0, none⟩)), (3, .int .i64 i.1.2)] [J i.1.1, box B 36 [.slice A l.length c], row 31 A c l] []) (fun i => l.length - (i.1.1).length) ⟨([], (l.length : Int) - 1), Nat.zero_le _, by simp⟩ (wk0 Φ Ω) ?_
 rintro ⟨⟨pre, z⟩, hpre, hz⟩
 refine cmono (S' := St M0 F0 w0 19 [(0, .func (.yield lp) #[] #[]), (1, .pointer (some ⟨B, 0, none⟩)), (3, .int .i64 z)] [J pre, box B 36 [.slice A l.length c], row 31 A c l] []) Ħ ?_
 refine k_ 7 ?_
 refine cc rfl ?_ ?_
 ·
  intro h8
  dsimp only at hpre hz
  try simp only [nrmZ] at h8
  have hk1 : l.length - 1 - pre.length < l.length := by omega
  refine k_ 5 ?_
  refine rowC Θ (fun e => absurd (show l.length = 0 by rw [e]; rfl) (by omega)) ?_; rintro g rfl
  refine k_ 5 ?_
  refine ls (op (p_ia (l.length - 1 - pre.length) rfl hk1 (by omega) underlying36 sizeOf31 rfl rfl) rfl) ?_
  refine ls (o_ldrow isAgg31 sizeOf31 rfl Θ (List.getElem?_eq_getElem hk1) rfl) ?_
  refine le ?_; intro zyp
  refine ls (o_yield (i := 0) rfl (by have := hY pre ⟨(l.length - 1 - pre.length, zyp), hk1⟩ (by dsimp only; omega); dsimp only at this; rw [show ((l.length - 1 - pre.length : Nat) : Int) = z by omega] at this; exact this) rfl rfl Ω rfl) ?_
  refine le ?_; intro bb
  refine k_ 3 ?_
  refine cc rfl ?_ ?_
  ·
   intro h18
   obtain rfl : false = bb := by cases bb <;> first | rfl | (simp at h18)
   refine k_ 2 ?_
   exact rR [0, 0, 0] ⟨none, fun _ h => by cases h⟩
  ·
   intro h18
   obtain rfl : true = bb := by cases bb <;> first | rfl | (simp at h18)
   refine k_ 8 ?_
   refine nnext ⟨(pre ++ [⟨(l.length - 1 - pre.length, zyp), hk1⟩], z - 1), by simp; omega, by simp; omega⟩ (by simp; omega) (wK [0, 0, 0])
 ·
  intro h8
  dsimp only at hpre hz
  try simp only [nrmZ] at h8
  refine k_ 4 ?_
  exact rR [0, 0, 0] ⟨some pre, fun xs h => by cases h; omega⟩
set_option maxRecDepth 100000 in
theorem c_nPastD (l : List Patch) (A : Option Addr) (c : Nat) (hl : l.length ≤ 2000000) (hf : ∀ x ∈ l, x.fit) (q0 : Patch) (y : Rp.Lay Patch) (hq : q0.fit) : Con Tryz.prog 16 [.slice A l.length c, sv q0 y] [] [slA y.1.1 q0.deps, slA y.2.1 q0.l, capA y.2.2 q0.l.length, slA A l] {x : (Patch × List Patch × Bool) × (Rp.Lay Patch × (Option Addr × Nat)) // x.1 = ppast l q0} (fun x => .tuple #[sv x.1.1.1 x.1.2.1, .slice x.1.2.2.1 x.1.1.2.1.length x.1.2.2.2, .bool x.1.1.2.2]) (fun x => [row 31 x.1.2.2.1 x.1.2.2.2 x.1.1.2.1]) (fun x => [slA x.1.2.1.1.1 x.1.1.1.deps, slA x.1.2.1.2.1 x.1.1.1.l, capA x.1.2.1.2.2 x.1.1.1.l.length]) := by
 refine con func16 rfl ntmps16 rfl ?_
 intro M0 F0 w0
 refine k_ 2 ?_
 refine ls (o_box rfl rfl rfl) ?_
 refine le ?_; intro b3
 refine ls (o_alloc zeroValue31 rfl rfl) ?_
 refine le ?_; intro b4
 refine ls (o_alloc zeroValue36 rfl rfl) ?_
 refine le ?_; intro b5
 refine ls (o_alloc zeroValue4 rfl rfl) ?_
 refine le ?_; intro b6
 refine k_ 6 ?_
 refine ls (o_mk Patch.zero ((none, 0), (none, 0)) l.length underlying36 inf31 rfl (by decide) (fun M w p hp => by simp only [Rp.asn, List.mem_cons, List.mem_nil_iff, or_false] at hp; rcases hp with rfl | rfl | rfl <;> first | exact slA_none M w | exact Nat.le_refl 0) rfl rfl rfl rfl (by omega) (by omega) rfl) ?_
 refine le ?_; intro g
 rw [List.length_replicate]
 refine k_ 5 ?_
 refine ls (o_ldw isAgg31 sizeOf31 rfl Θ (by rfl) rfl) ?_
 refine lC [] call7 (c_nClone q0 y hq) ?_; intro y16
 refine k_ 7 ?_
 refine lC [] call28 (c_BackwardP l A c) ?_; intro b18
 refine k_ 3 ?_
 rw [show List.replicate l.length Patch.zero = List.replicate (l.length - 0) Patch.zero ++ [] by simp]
 refine crng (ι := fun pre => {q : Patch × List Patch × Rp.Lay Patch // PP l q0 pre.length q.1 q.2.1}) rfl call44 (c_BackwardP1 l A c hl b18) (fun _ => rfl) rfl (fun pre i => [box b4 31 (Rp.enc i.1.1 i.1.2.2), box b5 36 [.slice (some ⟨g, 0, none⟩) l.length l.length], box b6 4 [.bool false], row 31 (some ⟨g, 0, none⟩) l.length (List.replicate (l.length - pre.length) Patch.zero ++ i.1.2.1)]) (fun pre i => [slA i.1.2.2.1.1 i.1.1.deps, slA i.1.2.2.2.1 i.1.1.l, capA i.1.2.2.2.2 i.1.1.l.length]) (⟨(q0, [], y16), PP.start hq⟩) (Y := {u : Unit // ppast l q0 = (Patch.zero, [], false)}) (fun _ => [box b4 31 (Rp.enc Patch.zero ((none, 0), (none, 0))), box b5 36 [.slice none 0 0], box b6 4 [.bool false]]) (fun _ => []) (is := [4, 3, 2, 1, 0]) rfl Ω Ω ?_ ?_ ?_
 ·
  rintro M0 F0 w0 lp κ pre ⟨⟨k, yk⟩, hk⟩ hx ⟨⟨q, rest, yq⟩, hI⟩
  dsimp only at hk hx hI
  have hrl := hI.len; have hfk := hf _ (List.getElem_mem hk)
  refine cmono (S' := St M0 F0 w0 ⟨38, []⟩ [(4, .pointer (some ⟨b4, 0, none⟩)), (5, .pointer (some ⟨b5, 0, none⟩)), (6, .pointer (some ⟨b6, 0, none⟩)), (19, .int .i64 (k : Int)), (20, sv l[k] yk)] [lrec lp κ .ready none, box b4 31 (Rp.enc q yq), box b5 36 [.slice (some ⟨g, 0, none⟩) l.length l.length], box b6 4 [.bool false], row 31 (some ⟨g, 0, none⟩) l.length (List.replicate (l.length - pre.length) Patch.zero ++ rest)] [slA yq.1.1 q.deps, slA yq.2.1 q.l, capA yq.2.2 q.l.length, slA yk.1.1 l[k].deps, slA yk.2.1 l[k].l, capA yk.2.2 l[k].l.length]) (wk0 Φ Ω) ?_
  refine k_ 6 ?_
  refine ls (o_alloc zeroValue31 rfl rfl) ?_
  refine le ?_; intro b8
  refine k_ 2 ?_
  refine nbegin (i := 1) rfl ?_
  refine k_ 3 ?_
  refine ls (o_ldw isAgg31 sizeOf31 rfl Θ (by rfl) rfl) ?_
  refine ls (o_ldw isAgg31 sizeOf31 rfl Θ (by rfl) rfl) ?_
  refine lC [] call9 (c_nSwap l[k] q yk yq hfk hI.fq) ?_; rintro ⟨⟨⟨r1, r2, r3⟩, z1, z2⟩, hr⟩
  obtain ⟨e1, e2⟩ := pswap_fit2 hr hfk hI.fq; dsimp only at hr e1 e2
  refine k_ 4 ?_
  refine ls (o_alloc zeroValue31 rfl rfl) ?_
  refine le ?_; intro b9
  refine ls (o_alloc zeroValue31 rfl rfl) ?_
  refine le ?_; intro b10
  refine k_ 12 ?_
  refine cc rfl ?_ ?_
  ·
   intro h29
   obtain rfl : false = r3 := by cases r3 <;> first | rfl | (simp at h29)
   refine k_ 9 ?_
   refine xretR Ħ ?_
   exact nrret ⟨(), hI.stop (by omega) hr⟩ (is := [2, 3, 3, 3]) rfl Ω
  ·
   intro h29
   obtain rfl : true = r3 := by cases r3 <;> first | rfl | (simp at h29)
   refine k_ 2 ?_
   refine cd [4, 6] [(0, b5, 0, _), (2, b9, 0, _), (3, b10, 0, _)] TryzX.mixed (TOk.t (isBoxS Θ (k := 1) Δ) (TOk.t (isBoxS Θ (k := 4) Δ) (TOk.t (isBoxS Θ (k := 4) Δ) TOk.d))) ?_
   refine u_ 0 4 ?_
   refine df 4 Ψ ?_
   refine doR rfl (o_st rfl sizeOf31 rfl rfl rfl rfl rfl Θ Θ Θ) (TOk.t (isBoxS Θ (k := 1) Δ) (TOk.x Ψ (TOk.t (isBoxS Θ (k := 4) Δ) TOk.d))) ?_
   refine tk 5 rfl Ψ Υ gnone (TTany _) (p_ia k rfl hk rfl underlying36 sizeOf31 rfl rfl) rfl ?_
   refine df 6 Ψ ?_
   refine doR rfl (o_strow (z := r2) (yz := z2) rfl sizeOf31 rfl rfl rfl Θ (by simp; omega) Θ Ω) tX ?_
   refine dn Ψ ?_
   refine k_ 1 ?_
   rw [rep_set (by omega), show pre.length + 1 = (pre ++ [(⟨(k, yk), hk⟩ : {x : Nat × Rp.Lay Patch // x.1 < l.length})]).length by simp]
   exact nround ⟨(r1, r2 :: rest, z1), by rw [List.length_append]; exact hI.step (by omega) hf hr⟩ (is := [2, 3, 3, 3, 3]) rfl Ω
 ·
  rintro D xs hC ⟨⟨q, rest, yq⟩, hI⟩
  dsimp only at hC hI
  have hd := hI.done hC; have hrl := hI.len
  rw [show List.replicate (l.length - xs.length) Patch.zero ++ rest = rest by rw [hC]; simp]
  refine k_ 3 ?_
  skip
  refine cd [2, 3, 4] [(0, b4, 0, _), (1, b5, 0, _)] TryzX.mixed (TOk.t (isBoxS Θ (k := 4) Δ) (TOk.t (isBoxS Θ (k := 1) Δ) TOk.d)) ?_
  refine u_ 0 2 ?_
  refine df 2 Ψ ?_
  refine doR rfl (o_st rfl sizeOf31 rfl rfl rfl rfl rfl Θ Θ Θ) (TOk.x Ψ (TOk.t (isBoxS Θ (k := 1) Δ) TOk.d)) ?_
  refine df 3 Ψ ?_
  refine doR rfl (o_st rfl sizeOf36 rfl rfl rfl rfl rfl Θ Θ Θ) tX ?_
  refine df 4 Ψ ?_
  refine doR rfl (o_st rfl sizeOf4 rfl rfl rfl rfl rfl Θ Θ Θ) tX ?_
  refine dn Ψ ?_
  refine k_ 3 ?_
  refine rretm (Dfr.c (i := 5) rfl Dfr.d) (is := [3]) ⟨((q, rest, true), (yq, (some ⟨g, 0, none⟩, l.length))), hd.symm⟩ (Or.inl rfl) (Res.c rfl isAgg31 sizeOf31 Θ (by rfl) (Res.c1 rfl isAgg36 Θ (Res.c1 rfl isAgg4 Θ Res.d))) ?_ rfl Ω
  dsimp only [packV]; rw [show rest.length = l.length by omega]; rfl
 ·
  rintro D ⟨_, hst⟩
  refine nmono (fun a w h => nilC (α := Prim) h) ?_
  refine nmono (fun a w h => nilSl (α := Int) h) ?_
  refine nmono (fun a w h => nilRow (α := Patch) 31 h) ?_
  refine k_ 1 ?_
  refine rretm (Dfr.c (i := 5) rfl Dfr.d) (is := [0]) ⟨((Patch.zero, [], false), (((none, 0), (none, 0)), (none, 0))), hst.symm⟩ (Or.inl rfl) (Res.c rfl isAgg31 sizeOf31 Θ (by rfl) (Res.c1 rfl isAgg36 Θ (Res.c1 rfl isAgg4 Θ Res.d))) (rfl) rfl Ω
set_option maxRecDepth 100000 in
theorem c_nPastR (l : List Patch) (A : Option Addr) (c : Nat) (hl : l.length ≤ 2000000) (hf : ∀ x ∈ l, x.fit) (q0 : Patch) (y : Rp.Lay Patch) (hq : q0.fit) : Con Tryz.prog 16 [.slice A l.length c, sv q0 y] [row 31 A c l] [slA y.1.1 q0.deps, slA y.2.1 q0.l, capA y.2.2 q0.l.length] {x : (Patch × List Patch × Bool) × (Rp.Lay Patch × (Option Addr × Nat)) // x.1 = ppast l q0} (fun x => .tuple #[sv x.1.1.1 x.1.2.1, .slice x.1.2.2.1 x.1.1.2.1.length x.1.2.2.2, .bool x.1.1.2.2]) (fun x => [row 31 x.1.2.2.1 x.1.2.2.2 x.1.1.2.1, row 31 A c l]) (fun x => [slA x.1.2.1.1.1 x.1.1.1.deps, slA x.1.2.1.2.1 x.1.1.1.l, capA x.1.2.1.2.2 x.1.1.1.l.length]) := by
 refine con func16 rfl ntmps16 rfl ?_
 intro M0 F0 w0
 refine k_ 2 ?_
 refine ls (o_box rfl rfl rfl) ?_
 refine le ?_; intro b3
 refine ls (o_alloc zeroValue31 rfl rfl) ?_
 refine le ?_; intro b4
 refine ls (o_alloc zeroValue36 rfl rfl) ?_
 refine le ?_; intro b5
 refine ls (o_alloc zeroValue4 rfl rfl) ?_
 refine le ?_; intro b6
 refine k_ 6 ?_
 refine ls (o_mk Patch.zero ((none, 0), (none, 0)) l.length underlying36 inf31 rfl (by decide) (fun M w p hp => by simp only [Rp.asn, List.mem_cons, List.mem_nil_iff, or_false] at hp; rcases hp with rfl | rfl | rfl <;> first | exact slA_none M w | exact Nat.le_refl 0) rfl rfl rfl rfl (by omega) (by omega) rfl) ?_
 refine le ?_; intro g
 rw [List.length_replicate]
 refine k_ 5 ?_
 refine ls (o_ldw isAgg31 sizeOf31 rfl Θ (by rfl) rfl) ?_
 refine lC [] call7 (c_nClone q0 y hq) ?_; intro y16
 refine k_ 7 ?_
 refine lC [] call28 (c_BackwardP l A c) ?_; intro b18
 refine k_ 3 ?_
 rw [show List.replicate l.length Patch.zero = List.replicate (l.length - 0) Patch.zero ++ [] by simp]
 refine crng (ι := fun pre => {q : Patch × List Patch × Rp.Lay Patch // PP l q0 pre.length q.1 q.2.1}) rfl call44 (c_BackwardR1 l A c hl b18) (fun _ => rfl) rfl (fun pre i => [box b4 31 (Rp.enc i.1.1 i.1.2.2), box b5 36 [.slice (some ⟨g, 0, none⟩) l.length l.length], box b6 4 [.bool false], row 31 (some ⟨g, 0, none⟩) l.length (List.replicate (l.length - pre.length) Patch.zero ++ i.1.2.1)]) (fun pre i => [slA i.1.2.2.1.1 i.1.1.deps, slA i.1.2.2.2.1 i.1.1.l, capA i.1.2.2.2.2 i.1.1.l.length]) (⟨(q0, [], y16), PP.start hq⟩) (Y := {u : Unit // ppast l q0 = (Patch.zero, [], false)}) (fun _ => [box b4 31 (Rp.enc Patch.zero ((none, 0), (none, 0))), box b5 36 [.slice none 0 0], box b6 4 [.bool false]]) (fun _ => []) (is := [4, 3, 2, 1, 0, 1]) rfl Ω Ω ?_ ?_ ?_
 ·
  rintro M0 F0 w0 lp κ pre ⟨⟨k, yk⟩, hk⟩ hx ⟨⟨q, rest, yq⟩, hI⟩
  dsimp only at hk hx hI
  have hrl := hI.len; have hfk := hf _ (List.getElem_mem hk)
  refine cmono (S' := St M0 F0 w0 ⟨38, []⟩ [(4, .pointer (some ⟨b4, 0, none⟩)), (5, .pointer (some ⟨b5, 0, none⟩)), (6, .pointer (some ⟨b6, 0, none⟩)), (19, .int .i64 (k : Int)), (20, sv l[k] yk)] [lrec lp κ .ready none, box b4 31 (Rp.enc q yq), box b5 36 [.slice (some ⟨g, 0, none⟩) l.length l.length], box b6 4 [.bool false], row 31 (some ⟨g, 0, none⟩) l.length (List.replicate (l.length - pre.length) Patch.zero ++ rest)] [slA yq.1.1 q.deps, slA yq.2.1 q.l, capA yq.2.2 q.l.length, slA yk.1.1 l[k].deps, slA yk.2.1 l[k].l, capA yk.2.2 l[k].l.length]) (wk0 Φ Ω) ?_
  refine k_ 6 ?_
  refine ls (o_alloc zeroValue31 rfl rfl) ?_
  refine le ?_; intro b8
  refine k_ 2 ?_
  refine nbegin (i := 1) rfl ?_
  refine k_ 3 ?_
  refine ls (o_ldw isAgg31 sizeOf31 rfl Θ (by rfl) rfl) ?_
  refine ls (o_ldw isAgg31 sizeOf31 rfl Θ (by rfl) rfl) ?_
  refine lC [] call9 (c_nSwap l[k] q yk yq hfk hI.fq) ?_; rintro ⟨⟨⟨r1, r2, r3⟩, z1, z2⟩, hr⟩
  obtain ⟨e1, e2⟩ := pswap_fit2 hr hfk hI.fq; dsimp only at hr e1 e2
  refine k_ 4 ?_
  refine ls (o_alloc zeroValue31 rfl rfl) ?_
  refine le ?_; intro b9
  refine ls (o_alloc zeroValue31 rfl rfl) ?_
  refine le ?_; intro b10
  refine k_ 12 ?_
  refine cc rfl ?_ ?_
  ·
   intro h29
   obtain rfl : false = r3 := by cases r3 <;> first | rfl | (simp at h29)
   refine k_ 9 ?_
   refine xretR Ħ ?_
   exact nrret ⟨(), hI.stop (by omega) hr⟩ (is := [2, 3, 3, 3]) rfl Ω
  ·
   intro h29
   obtain rfl : true = r3 := by cases r3 <;> first | rfl | (simp at h29)
   refine k_ 2 ?_
   refine cd [4, 6] [(0, b5, 0, _), (2, b9, 0, _), (3, b10, 0, _)] TryzX.mixed (TOk.t (isBoxS Θ (k := 1) Δ) (TOk.t (isBoxS Θ (k := 4) Δ) (TOk.t (isBoxS Θ (k := 4) Δ) TOk.d))) ?_
   refine u_ 0 4 ?_
   refine df 4 Ψ ?_
   refine doR rfl (o_st rfl sizeOf31 rfl rfl rfl rfl rfl Θ Θ Θ) (TOk.t (isBoxS Θ (k := 1) Δ) (TOk.x Ψ (TOk.t (isBoxS Θ (k := 4) Δ) TOk.d))) ?_
   refine tk 5 rfl Ψ Υ gnone (TTany _) (p_ia k rfl hk rfl underlying36 sizeOf31 rfl rfl) rfl ?_
   refine df 6 Ψ ?_
   refine doR rfl (o_strow (z := r2) (yz := z2) rfl sizeOf31 rfl rfl rfl Θ (by simp; omega) Θ Ω) tX ?_
   refine dn Ψ ?_
   refine k_ 1 ?_
   rw [rep_set (by omega), show pre.length + 1 = (pre ++ [(⟨(k, yk), hk⟩ : {x : Nat × Rp.Lay Patch // x.1 < l.length})]).length by simp]
   exact nround ⟨(r1, r2 :: rest, z1), by rw [List.length_append]; exact hI.step (by omega) hf hr⟩ (is := [2, 3, 3, 3, 3]) rfl Ω
 ·
  rintro D xs hC ⟨⟨q, rest, yq⟩, hI⟩
  dsimp only at hC hI
  have hd := hI.done hC; have hrl := hI.len
  rw [show List.replicate (l.length - xs.length) Patch.zero ++ rest = rest by rw [hC]; simp]
  refine k_ 3 ?_
  skip
  refine cd [2, 3, 4] [(0, b4, 0, _), (1, b5, 0, _)] TryzX.mixed (TOk.t (isBoxS Θ (k := 4) Δ) (TOk.t (isBoxS Θ (k := 1) Δ) TOk.d)) ?_
  refine u_ 0 2 ?_
  refine df 2 Ψ ?_
  refine doR rfl (o_st rfl sizeOf31 rfl rfl rfl rfl rfl Θ Θ Θ) (TOk.x Ψ (TOk.t (isBoxS Θ (k := 1) Δ) TOk.d)) ?_
  refine df 3 Ψ ?_
  refine doR rfl (o_st rfl sizeOf36 rfl rfl rfl rfl rfl Θ Θ Θ) tX ?_
  refine df 4 Ψ ?_
  refine doR rfl (o_st rfl sizeOf4 rfl rfl rfl rfl rfl Θ Θ Θ) tX ?_
  refine dn Ψ ?_
  refine k_ 3 ?_
  refine rretm (Dfr.c (i := 6) rfl Dfr.d) (is := [3, 4]) ⟨((q, rest, true), (yq, (some ⟨g, 0, none⟩, l.length))), hd.symm⟩ (Or.inl rfl) (Res.c rfl isAgg31 sizeOf31 Θ (by rfl) (Res.c1 rfl isAgg36 Θ (Res.c1 rfl isAgg4 Θ Res.d))) ?_ rfl Ω
  dsimp only [packV]; rw [show rest.length = l.length by omega]; rfl
 ·
  rintro D ⟨_, hst⟩
  refine nmono (fun a w h => nilC (α := Prim) h) ?_
  refine nmono (fun a w h => nilSl (α := Int) h) ?_
  refine nmono (fun a w h => nilRow (α := Patch) 31 h) ?_
  refine k_ 1 ?_
  refine rretm (Dfr.c (i := 6) rfl Dfr.d) (is := [0, 4]) ⟨((Patch.zero, [], false), (((none, 0), (none, 0)), (none, 0))), hst.symm⟩ (Or.inl rfl) (Res.c rfl isAgg31 sizeOf31 Θ (by rfl) (Res.c1 rfl isAgg36 Θ (Res.c1 rfl isAgg4 Θ Res.d))) (rfl) rfl Ω
end Go.Proofs.YtmikcpaaomamiaaGreatDoor.X
end
section
set_option linter.unusedVariables false
set_option linter.unusedSimpArgs false
namespace Go.Proofs.YtmikcpaaomamiaaGreatDoor.X
open Go Go.RowKit Go.Proofs Go.Sx
open Tryz
attribute [local irreducible] slA isA box row TrL TrC TrN TrA Pu OpR
set_option maxHeartbeats 8000000
set_option maxRecDepth 100000 in
theorem c_nGroup (l : List Patch) (A : Option Addr) (c : Nat) (hl : l.length ≤ 2000000) (hf : ∀ x ∈ l, x.fit) : Con Tryz.prog 15 [.slice A l.length c] [] [slA A l] {x : (List Patch × List Patch) × ((Option Addr × Nat) × (Option Addr × Nat)) // x.1 = group l} (fun x => .tuple #[.slice x.1.2.1.1 x.1.1.1.length x.1.2.1.2, .slice x.1.2.2.1 x.1.1.2.length x.1.2.2.2]) (fun _ => []) (fun x => [slA x.1.2.1.1 x.1.1.1, nilA x.1.2.1, capA x.1.2.1.2 x.1.1.1.length, slA x.1.2.2.1 x.1.1.2, nilA x.1.2.2, capA x.1.2.2.2 x.1.1.2.length]) := by
 refine con func15 rfl ntmps15 rfl ?_
 intro M0 F0 w0
 refine k_ 8 ?_
 refine cmono (fun a w h => nilRow (α := Patch) 31 h) ?_
 refine cmono (fun a w h => nilRow (α := Patch) 31 h) ?_
 refine k_ 7 ?_
 refine cl (ι := {q : Nat × List Patch × List Patch × (Option Addr × Nat) × (Option Addr × Nat) // q.1 ≤ l.length ∧ GI l q.1 q.2.1 q.2.2.1}) (fun i => St M0 F0 w0 42 [(2, .slice i.1.2.2.2.1.1 (i.1.2.1).length i.1.2.2.2.1.2), (3, .slice i.1.2.2.2.2.1 (i.1.2.2.1).length i.1.2.2.2.2.2), (9, .slice A l.length c), (10, .int .i64 (l.length : Int)), (11, .int .i64 (i.1.1 : Int))] [row 31 (i.1.2.2.2.1.1) (i.1.2.2.2.1.2) i.1.2.1, row 31 (i.1.2.2.2.2.1) (i.1.2.2.2.2.2) i.1.2.2.1] [slA A l]) (fun i => l.length - i.1.1) ⟨(0, [], [], (none, 0), (none, 0)), Nat.zero_le _, GI.start l⟩ (wK [0, 0]) ?_
 rintro ⟨⟨k, g, r, ⟨Ag, cg⟩, ⟨Ax, cx⟩⟩, hk, hI⟩
 refine cmono (S' := St M0 F0 w0 42 [(2, .slice Ag (g).length cg), (3, .slice Ax (r).length cx), (9, .slice A l.length c), (10, .int .i64 (l.length : Int)), (11, .int .i64 (k : Int))] [row 31 (Ag) (cg) g, row 31 (Ax) (cx) r] [slA A l]) Ħ ?_
 refine k_ 6 ?_
 refine cc rfl ?_ ?_
 ·
  intro h12
  dsimp only at hk hI
  try simp only [nrmZ] at h12
  have hk1 : k < l.length := by omega
  have hgl := hI.len; have hfk := hf _ (List.getElem_mem hk1)
  refine k_ 5 ?_
  refine elC Θ k (List.getElem?_eq_getElem (l := l) hk1) ?_; rintro zbp zop zyp hAp
  refine k_ 2 ?_
  refine ls (op (p_ia k hAp hk1 rfl underlying36 sizeOf31 rfl rfl) rfl) ?_
  refine ls (o_ldj isAgg31 sizeOf31 rfl Θ 0 rfl Δ rfl) ?_
  refine ls (o_alloc zeroValue31 rfl rfl) ?_
  refine le ?_; intro b5
  refine k_ 7 ?_
  refine ls (o_ldw isAgg31 sizeOf31 rfl Θ (by rfl) rfl) ?_
  refine lC [1] call16 (c_nPastR g Ag cg (by omega) hI.fg l[k] zyp hfk) ?_; rintro ⟨⟨⟨q1, rest1, b3⟩, ⟨yq1, ⟨A1, c1⟩⟩⟩, hr⟩
  dsimp only at hr
  refine k_ 4 ?_
  refine ls (o_alloc zeroValue31 rfl rfl) ?_
  refine le ?_; intro b6
  refine k_ 11 ?_
  refine orX 3 25 28 rfl (sL [2, 3, 9, 10, 11, 12, 13, 14, 15, 5, 17, 18, 19, 16, 20, 21, 22, 6, 7]) ?_ ?_
  ·
   intro h25
   refine k_ 3 ?_
   refine ln (nmid (wk0 Φ Ω))
  apply exI
  ·
   intro h25
   refine k_ 3 ?_
   refine ln (nmid (wk0 Φ Ω))
  ·
   refine k_ 2 ?_
   refine cc rfl ?_ ?_
   ·
    intro h28
    have hno : k = 0 ∨ (q1, rest1, false) = ppast g l[k] := by (rcases Nat.eq_zero_or_pos k with h0 | h0; · exact .inl h0); · right; rw [← hr]; cases b3 <;> first | rfl | (simp at h28; omega)
    refine k_ 3 ?_
    refine ls (o_ldw isAgg31 sizeOf31 rfl Θ (by rfl) rfl) ?_
    refine lC [] call7 (c_nClone l[k] zyp hfk) ?_; intro y31
    refine ls (o_bsl [l[k]] underlying36 sizeOf31 zeroValue31 rfl (Enum.t Enum.d) (RV.t y31 rfl Ω RV.d) rfl (by decide) (by decide) rfl) ?_
    refine le ?_; intro b32
    refine lmono (fun a w h => Go.Sx.freeze (i := 0) rfl h) ?_
    refine ls (o_app (is := [2]) underlying36 inf31 rfl (by decide) (by decide) rfl rfl (by simp only [List.length_cons, List.length_nil]; omega) (fun h => by cases h) rfl Ω rfl) ?_
    refine le ?_; rintro ⟨A2, c2⟩
    refine k_ 11 ?_
    refine nnext ⟨(k + 1, g ++ [l[k]], r, (A2, c2), (Ax, cx)), hk1, hI.no hk1 hf hno⟩ (by dsimp only; omega) (wK [0, 3])
   ·
    intro h28
    have hyes : k ≠ 0 ∧ b3 = true := by cases b3 <;> simp at h28 ⊢; omega
    obtain ⟨hk0, rfl⟩ := hyes
    have hok := ppast_ok hr hI.fg hfk
    refine k_ 5 ?_
    refine ls (o_ldw isAgg31 sizeOf31 rfl Θ (by rfl) rfl) ?_
    refine ls (o_bsl [q1] underlying36 sizeOf31 zeroValue31 rfl (Enum.t Enum.d) (RV.t yq1 rfl Ω RV.d) rfl (by decide) (by decide) rfl) ?_
    refine le ?_; intro b37
    refine lmono (fun a w h => Go.Sx.freeze (i := 0) rfl h) ?_
    refine ls (o_app (is := [4]) underlying36 inf31 rfl (by decide) (by decide) rfl rfl (by simp only [List.length_cons, List.length_nil]; omega) (fun h => by cases h) rfl Ω rfl) ?_
    refine le ?_; rintro ⟨A2, c2⟩
    refine k_ 9 ?_
    refine nnext ⟨(k + 1, rest1, r ++ [q1], (A1, c1), (A2, c2)), hk1, hI.yes hk1 hk0 hf hr⟩ (by dsimp only; omega) (wK [2, 0])
 ·
  intro h12
  dsimp only at hk hI
  try simp only [nrmZ] at h12
  have hd := hI.done (by omega)
  refine k_ 6 ?_
  refine cmono (fun a w h => freezeN (i := 0) rfl h) ?_
  refine cmono (fun a w h => freezeN (i := 0) rfl h) ?_
  refine k_ 9 ?_
  exact rR [] ⟨((g, r), ((Ag, cg), (Ax, cx))), hd.symm⟩
end Go.Proofs.YtmikcpaaomamiaaGreatDoor.X
end
section
set_option linter.unusedVariables false
set_option linter.unusedSimpArgs false
namespace Go.Proofs.YtmikcpaaomamiaaGreatDoor.X
open Go Go.RowKit Go.Proofs Go.Sx
open Tryz
attribute [local irreducible] slA isA box row TrL TrC TrN TrA Pu OpR
set_option maxHeartbeats 8000000
def Patch.many (p : Patch) : Nat := 1 + p.note.size + p.deps.length + Sx.many p.l
def pmany (l : List Patch) : Nat := (l.map Patch.many).sum
def ppre (l : List Patch) (k : Nat) : Nat := ((l.take k).map Patch.many).sum
theorem ppre_succ {l : List Patch} {k : Nat} (h : k < l.length) : ppre l (k + 1) = ppre l k + l[k].many := by
 unfold ppre
 rw [List.take_succ_eq_append_getElem h, List.map_append, List.sum_append]
 simp only [List.map_cons, List.map_nil, List.sum_cons, List.sum_nil, Nat.add_zero]
theorem ppre_le (l : List Patch) (k : Nat) : ppre l k ≤ pmany l := by
 unfold ppre pmany
 have := sum_take (l.map Patch.many) k
 rw [← List.map_take] at this
 exact this
def ptot (l : List Patch) : Nat := (l.map fun p => p.l.length).sum
def pprt (l : List Patch) (k : Nat) : Nat := ((l.take k).map fun p => p.l.length).sum
theorem pprt_succ {l : List Patch} {k : Nat} (h : k < l.length) : pprt l (k + 1) = pprt l k + l[k].l.length := by
 unfold pprt
 rw [List.take_succ_eq_append_getElem h, List.map_append, List.sum_append]
 simp only [List.map_cons, List.map_nil, List.sum_cons, List.sum_nil, Nat.add_zero]
theorem many_len (l : List Prim) : l.length ≤ many l := by unfold many; omega
theorem pprt_le (l : List Patch) (k : Nat) : pprt l k ≤ pmany l := by
 have h1 : pprt l k ≤ ptot l := by
  unfold pprt ptot
  have := sum_take (l.map fun p => p.l.length) k
  rw [← List.map_take] at this
  exact this
 have h2 : ptot l ≤ pmany l := by
  unfold ptot pmany
  clear h1
  induction l with
  | nil => simp
  | cons x l ih =>
   simp only [List.map_cons, List.sum_cons]
   have := many_len x.l
   have : x.l.length ≤ x.many := by unfold Patch.many; omega
   omega
 omega
def fewB (l : List Patch) : Bool := decide ((l.length : Int) ≤ 12) && decide ((ptot l : Int) ≤ 40) && decide ((pmany l : Int) ≤ 6000)
def aA : Prim := ⟨1, ⟨#[97]⟩, ⟨#[]⟩, 0, [], []⟩
def aB : Prim := ⟨1, ⟨#[98]⟩, ⟨#[]⟩, 0, [], []⟩
def aC : Prim := ⟨1, ⟨#[99]⟩, ⟨#[]⟩, 0, [], []⟩
def aH : Prim := ⟨0, ⟨#[97]⟩, ⟨#[]⟩, 0, [], [⟨#[120]⟩]⟩
def qA : Patch := ⟨1, ⟨#[]⟩, [], [aA]⟩
def qB : Patch := ⟨2, ⟨#[98]⟩, [], [aB]⟩
def qC : Patch := ⟨3, ⟨#[]⟩, [], [aH]⟩
def qD : Patch := ⟨9, ⟨#[]⟩, [], [aC]⟩
theorem fit_of {p : Prim} (h1 : p.old.length ≤ 2000000) (h2 : p.new.length ≤ 2000000) (h3 : p.name.size ≤ 2000000) (h4 : p.to.size ≤ 2000000) (h5 : p.old.all (fun s => decide (s.size ≤ 2000000)) = true) (h6 : p.new.all (fun s => decide (s.size ≤ 2000000)) = true) : p.fit :=
 ⟨h1, h2, h3, h4, (fun s h => by simpa using List.all_eq_true.1 h5 s h), (fun s h => by simpa using List.all_eq_true.1 h6 s h)⟩
theorem fitaA : aA.fit := fit_of (by decide) (by decide) (by decide) (by decide) (by decide) (by decide)
theorem fitaB : aB.fit := fit_of (by decide) (by decide) (by decide) (by decide) (by decide) (by decide)
theorem fitaC : aC.fit := fit_of (by decide) (by decide) (by decide) (by decide) (by decide) (by decide)
theorem fitaH : aH.fit := fit_of (by decide) (by decide) (by decide) (by decide) (by decide) (by decide)
theorem fitqA : qA.fit := ⟨by decide, by decide, by decide, fun x h => by simp [qA] at h; subst h; exact fitaA⟩
theorem fitqB : qB.fit := ⟨by decide, by decide, by decide, fun x h => by simp [qB] at h; subst h; exact fitaB⟩
theorem fitqC : qC.fit := ⟨by decide, by decide, by decide, fun x h => by simp [qC] at h; subst h; exact fitaH⟩
theorem fitqD : qD.fit := ⟨by decide, by decide, by decide, fun x h => by simp [qD] at h; subst h; exact fitaC⟩
theorem fit3 : ∀ x ∈ [qA, qB, qC], x.fit := by intro x h; simp at h; rcases h with rfl | rfl | rfl; exact fitqA; exact fitqB; exact fitqC
theorem fit2 : ∀ x ∈ [qA, qB], x.fit := by intro x h; simp at h; rcases h with rfl | rfl; exact fitqA; exact fitqB
theorem al1 : group [qA, qB, qC] = ([qA, qC], [qB]) := by decide +kernel
theorem al2 : pswap qA qB = (qB, qA, true) := by decide +kernel
theorem al3 : ppast [qA, qB] qD = (qD, [qA, qB], true) := by decide +kernel
theorem al4 : pswap qA qC = (Patch.zero, Patch.zero, false) := by decide +kernel
theorem al5 : qA.right = true := by decide +kernel
theorem al6 : Patch.zero.right = false := by decide +kernel
theorem al7 : (!(pswap qA qC).2.2) = true := by rw [al4]; rfl
theorem pthree {a b c d : Patch} {e f : Bool} (h : (a, b, e) = (c, d, f)) : a = c ∧ b = d ∧ e = f := by simpa using h
theorem ptwo_eq {α β : Type} {a c : α} {b d : β} (h : (a, b) = (c, d)) : a = c ∧ b = d := by simpa using h
theorem pthr2 {α β γ : Type} {a c : α} {b d : β} {e f : γ} (h : (a, b, e) = (c, d, f)) : a = c ∧ b = d ∧ e = f := by simpa using h
set_option maxRecDepth 100000 in
theorem c_Many7 (l : List Patch) (A : Option Addr) (c : Nat) (hl : l.length ≤ 2000000) (hf : ∀ x ∈ l, x.fit) (hM : pmany l ≤ 1000000000000) : Con Tryz.prog 12 [.slice A l.length c] [] [slA A l] Unit (fun _ => .int .i64 (pmany l : Int)) (fun _ => []) (fun _ => []) := by
 refine con func12 rfl ntmps12 rfl ?_
 intro M0 F0 w0
 refine k_ 19 ?_
 refine cl (ι := {q : Nat × Int // q.1 ≤ l.length ∧ q.2 = (ppre l q.1 : Nat)}) (fun i => St M0 F0 w0 28 [(6, .slice A l.length c), (7, .int .i64 (l.length : Int)), (8, .int .i64 (i.1.1 : Int)), (3, .int .i64 i.1.2)] [] [slA A l]) (fun i => l.length - i.1.1) ⟨(0, 0), by simp [ppre]⟩ (wk0 Φ Ω) ?_
 rintro ⟨⟨k, n⟩, hk, hn⟩
 refine cmono (S' := St M0 F0 w0 28 [(6, .slice A l.length c), (7, .int .i64 (l.length : Int)), (8, .int .i64 (k : Int)), (3, .int .i64 n)] [] [slA A l]) Ħ ?_
 refine k_ 6 ?_
 refine cc rfl ?_ ?_
 ·
  intro h9
  dsimp only at hk hn
  try simp only [nrmZ] at h9
  have hk1 : k < l.length := by omega
  have hs := ppre_succ hk1
  have ht := ppre_le l (k + 1)
  have hu : l[k].many = 1 + l[k].note.size + l[k].deps.length + many l[k].l := rfl
  refine k_ 5 ?_
  refine elC Θ k (List.getElem?_eq_getElem (l := l) hk1) ?_; rintro zbp zop zyp hAp
  refine cr ?_
  refine ls (op (p_ia k hAp hk1 rfl underlying42 sizeOf25 rfl rfl) rfl) ?_
  refine ls (o_ldj isAgg25 sizeOf25 rfl Θ 0 rfl Δ rfl) ?_
  refine ls (o_alloc zeroValue25 rfl rfl) ?_
  refine le ?_; intro b5
  refine k_ 3 ?_
  refine cdB [11] [(2, b5, 1, _), (6, b5, 2, _), (10, b5, 3, _)] TryzX.mixed Ψ Ψ (TOk.t (isBoxS Θ (k := 1) Δ) (TOk.t (isBoxS Θ (k := 1) Δ) (TOk.t (isBoxS Θ (k := 1) Δ) TOk.d))) ?_
  refine t_ 0 11 ?_
  refine dfB 11 Ψ ?_
  refine doRB rfl (o_call (is := []) call26 (c_Many l[k].l _ _ (hf _ (List.getElem_mem hk1)).ll (by omega)) rfl rfl Ω rfl) (TOk.t (isBoxE fun _ => isBoxS Θ (k := 1) Δ) (TOk.t (isBoxE fun _ => isBoxS Θ (k := 1) Δ) (TOk.xP 11 [] Ψ TOk.d))) ?_
  refine eaB ?_; intro x23
  refine t_ 12 3 ?_
  refine dnB Ψ ?_
  refine k_ 6 ?_
  refine nnext ⟨(k + 1, n + (((1 + (l[k].note.size : Int)) + l[k].deps.length) + (many l[k].l : Int))), hk1, by dsimp only; omega⟩ (by dsimp only; omega) (wK [])
 ·
  intro h9
  dsimp only at hk hn
  try simp only [nrmZ] at h9
  obtain rfl : k = l.length := by omega
  refine k_ 13 ?_
  refine rret (is := []) () (Or.inl rfl) (Res.t rfl Res.d) ?_ rfl Ω
  simp only [packV]; rw [hn]; unfold ppre pmany; rw [List.take_length]
set_option maxRecDepth 100000 in
theorem c_few7 (l : List Patch) (A : Option Addr) (c : Nat) (hl : l.length ≤ 2000000) (hf : ∀ x ∈ l, x.fit) (hM : pmany l ≤ 1000000000000) : Con Tryz.prog 4 [.slice A l.length c] [] [slA A l] Unit (fun _ => .bool (fewB l)) (fun _ => []) (fun _ => []) := by
 refine con func4 rfl ntmps4 rfl ?_
 intro M0 F0 w0
 refine k_ 19 ?_
 refine cl (ι := {q : Nat × Int // q.1 ≤ l.length ∧ q.2 = (pprt l q.1 : Nat)}) (fun i => St M0 F0 w0 30 [(0, .slice A l.length c), (6, .slice A l.length c), (7, .int .i64 (l.length : Int)), (8, .int .i64 (i.1.1 : Int)), (3, .int .i64 i.1.2)] [] [slA A l]) (fun i => l.length - i.1.1) ⟨(0, 0), by simp [pprt]⟩ (wk0 Φ Ω) ?_
 rintro ⟨⟨k, n⟩, hk, hn⟩
 refine cmono (S' := St M0 F0 w0 30 [(0, .slice A l.length c), (6, .slice A l.length c), (7, .int .i64 (l.length : Int)), (8, .int .i64 (k : Int)), (3, .int .i64 n)] [] [slA A l]) Ħ ?_
 refine k_ 6 ?_
 refine cc rfl ?_ ?_
 ·
  intro h9
  dsimp only at hk hn
  try simp only [nrmZ] at h9
  have hk1 : k < l.length := by omega
  have hs := pprt_succ hk1
  have ht := pprt_le l (k + 1)
  refine k_ 5 ?_
  refine elC Θ k (List.getElem?_eq_getElem (l := l) hk1) ?_; rintro zbp zop zyp hAp
  refine cr ?_
  refine ls (op (p_ia k hAp hk1 rfl underlying42 sizeOf25 rfl rfl) rfl) ?_
  refine ls (o_ldj isAgg25 sizeOf25 rfl Θ 0 rfl Δ rfl) ?_
  refine ls (o_alloc zeroValue25 rfl rfl) ?_
  refine le ?_; intro b5
  refine k_ 17 ?_
  refine nnext ⟨(k + 1, n + (l[k].l.length : Int)), hk1, by dsimp only; omega⟩ (by dsimp only; omega) (wK [])
 ·
  intro h9
  dsimp only at hk hn
  try simp only [nrmZ] at h9
  obtain rfl : k = l.length := by omega
  refine k_ 11 ?_
  refine andX 3 21 24 rfl (sL [0, 6, 7, 8, 3, 9]) ?_ ?_
  ·
   intro h21
   refine k_ 3 ?_
   refine ln (nmid (wk0 Φ Ω))
  apply exI
  ·
   intro h21
   refine k_ 3 ?_
   refine ln (nmid (wk0 Φ Ω))
  ·
   refine k_ 1 ?_
   refine andX 4 25 29 rfl (sL [0, 6, 7, 8, 3, 9]) ?_ ?_
   ·
    intro h25
    refine k_ 4 ?_
    refine ln (nmid (wk0 Φ Ω))
   apply exI
   ·
    intro h25
    refine k_ 1 ?_
    refine lwant rfl rfl rfl rfl (o_call (is := []) call12 (c_Many7 l A c hl hf hM) rfl rfl Ω rfl) ?_
    refine le ?_; intro x27
    refine k_ 2 ?_
    refine ln (nmid (wk0 Φ Ω))
   ·
    refine k_ 5 ?_
    refine rret (is := []) () (Or.inl rfl) (Res.t rfl Res.d) ?_ rfl Ω
    simp only [packV]; rw [hn]; unfold pprt; rw [List.take_length]; rfl
set_option maxRecDepth 100000 in
theorem c_alive7 : Con Tryz.prog 6 [] [] [] Unit (fun _ => .bool true) (fun _ => []) (fun _ => []) := by
 refine con func6 rfl ntmps6 rfl ?_
 intro M0 F0 w0
 refine k_ 6 ?_
 refine cmono (fun a w h => nilSl (α := ByteArray) h) ?_
 refine cmono (fun a w h => nilSl (α := Int) h) ?_
 refine k_ 2 ?_
 refine ls (o_bsl [aA] underlying29 sizeOf39 zeroValue39 rfl (Enum.t Enum.d) (RV.t ((none, 0), (none, 0)) rfl Ω RV.d) rfl (by decide) (by decide) rfl) ?_
 refine le ?_; intro b11
 refine lmono (fun a w h => freezeN (i := 0) rfl h) ?_
 refine k_ 2 ?_
 refine ls (o_bsl [aB] underlying29 sizeOf39 zeroValue39 rfl (Enum.t Enum.d) (RV.t ((none, 0), (none, 0)) rfl Ω RV.d) rfl (by decide) (by decide) rfl) ?_
 refine le ?_; intro b14
 refine lmono (fun a w h => freezeN (i := 0) rfl h) ?_
 refine k_ 1 ?_
 refine ls (o_bsl ([⟨#[120]⟩] : List ByteArray) underlying37 sizeOf9 zeroValue9 rfl (Enum.t Enum.d) (RV.t () rfl Sub.d RV.d) rfl (by decide) (by decide) rfl) ?_
 refine le ?_; intro b16
 refine lmono (fun a w h => Go.Sx.freeze (i := 0) rfl h) ?_
 refine k_ 1 ?_
 refine ls (o_bsl [aH] underlying29 sizeOf39 zeroValue39 rfl (Enum.t Enum.d) (RV.t ((none, 0), (some ⟨b16, 0, none⟩, 1)) rfl Ω RV.d) rfl (by decide) (by decide) rfl) ?_
 refine le ?_; intro b18
 refine lmono (fun a w h => freezeN (i := 0) rfl h) ?_
 refine k_ 1 ?_
 refine ls (o_bsl [qA, qB, qC] underlying36 sizeOf31 zeroValue31 rfl (Enum.t (Enum.t (Enum.t Enum.d))) (RV.t ((none, 0), (some ⟨b11, 0, none⟩, 1)) rfl Ω (RV.t ((none, 0), (some ⟨b14, 0, none⟩, 1)) rfl Ω (RV.t ((none, 0), (some ⟨b18, 0, none⟩, 1)) rfl Ω RV.d))) rfl (by decide) (by decide) rfl) ?_
 refine le ?_; intro b20
 refine lmono (fun a w h => Go.Sx.freeze (i := 0) rfl h) ?_
 refine k_ 6 ?_
 refine lC [] call15 (c_nGroup [qA, qB, qC] (some ⟨b20, 0, none⟩) 3 (by decide) fit3) ?_; rintro ⟨⟨⟨g, r⟩, ⟨⟨Ag, cg⟩, ⟨Ax, cx⟩⟩⟩, hg⟩
 obtain ⟨rfl, rfl⟩ := ptwo_eq (hg.trans al1)
 refine k_ 8 ?_
 refine elC Θ 0 ((show ([qA, qB, qC] : List Patch)[0]? = some qA from rfl)) ?_; rintro zbp zop zyp hAp
 refine elC Θ 1 ((show ([qA, qB, qC] : List Patch)[1]? = some qB from rfl)) ?_; rintro zbq zoq zyq hAq
 refine cutC (S' := fun a w => ∃ (b4 : Nat) (b5 : Nat) (z1 : Rp.Lay Patch) (z2 : Rp.Lay Patch), St M0 F0 w0 127 [(1, .slice (some ⟨b20, 0, none⟩) 3 3), (2, .slice Ag 2 cg), (3, .slice Ax 1 cx), (4, .pointer (some ⟨b4, 0, none⟩)), (5, .pointer (some ⟨b5, 0, none⟩)), (6, .bool true)] [box b4 31 (Rp.enc qB z1), box b5 31 (Rp.enc qA z2)] [slA z1.1.1 qB.deps, slA z1.2.1 qB.l, capA z1.2.2 qB.l.length, slA z2.1.1 qA.deps, slA z2.2.1 qA.l, capA z2.2.2 qA.l.length, slA Ag [qA, qC], slA Ax [qB], slA (some ⟨b20, 0, none⟩) [qA, qB, qC], slA none ([] : List Int), slA none ([] : List ByteArray)] a w) ?_ ?_
 ·
  refine cdB [6, 11, 12, 13, 14] [(2, zbp, zop + 0 * Rp.size Patch, _), (5, zbq, zoq + 1 * Rp.size Patch, _)] TryzX.mixed Ψ Ψ (TOk.t (isInS Θ (k := 0) rfl (z := 4) Δ) (TOk.t (isInS Θ (k := 0) rfl (z := 4) Δ) TOk.d)) ?_
  refine t_ 0 1 ?_
  refine tkB 1 rfl Ψ Υ gnone (TTany _) (p_ia 0 hAp (by decide) rfl underlying36 sizeOf31 rfl rfl) rfl ?_
  refine t_ 2 2 ?_
  refine tkB 4 rfl Ψ Υ gnone (TTany _) (p_ia 1 hAq (by decide) rfl underlying36 sizeOf31 rfl rfl) rfl ?_
  refine t_ 5 1 ?_
  refine dallB (is := [6, 11, 12]) Ψ rfl ?_
  intro i hi; simp only [List.mem_cons, List.mem_nil_iff, or_false] at hi; rcases hi with rfl | rfl | rfl
  ·
   refine doRB rfl (o_call (is := []) call9 (c_nSwap qA qB zyp zyq fitqA fitqB) rfl rfl Ω rfl) (TOk.xP 6 [] Ψ (TOk.xP 6 [] Ψ TOk.d)) ?_
   refine eaB ?_; rintro ⟨⟨⟨r1, r2, r3⟩, z1, z2⟩, hr⟩
   obtain ⟨rfl, rfl, rfl⟩ := pthree (hr.trans al2)
   refine t_ 7 4 ?_
   refine dallB (is := [11, 12]) Ψ rfl ?_
   intro i hi; simp only [List.mem_cons, List.mem_nil_iff, or_false] at hi; rcases hi with rfl | rfl
   ·
    refine doRB rfl (o_alloc zeroValue31 rfl rfl) (TOk.xP 6 [] Ψ (TOk.xP 6 [] Ψ TOk.d)) ?_
    refine eaB ?_; intro b4
    refine dfB 12 Ψ ?_
    refine doRB rfl (o_alloc zeroValue31 rfl rfl) (TOk.xP 6 [] Ψ (TOk.xP 6 [] Ψ TOk.d)) ?_
    refine eaB ?_; intro b5
    refine dfB 13 Ψ ?_
    refine doRB rfl (o_st rfl sizeOf31 rfl rfl rfl rfl rfl Θ Θ Θ) (TOk.xP 6 [] Ψ (TOk.xP 6 [] Ψ TOk.d)) ?_
    refine dfB 14 Ψ ?_
    refine doRB rfl (o_st rfl sizeOf31 rfl rfl rfl rfl rfl Θ Θ Θ) (TOk.xP 6 [] Ψ (TOk.xP 6 [] Ψ TOk.d)) ?_
    refine t_ 15 1 ?_
    refine dnB Ψ (nmid (fun a w h => by first | exact ⟨b4, b5, z1, z2, wL [1, 0] h⟩ | exact ⟨b4, b5, z1, z2, wL [0, 0] h⟩))
   ·
    refine doRB rfl (o_alloc zeroValue31 rfl rfl) (TOk.xP 6 [] Ψ (TOk.xP 6 [] Ψ TOk.d)) ?_
    refine eaB ?_; intro b5
    refine dfB 11 Ψ ?_
    refine doRB rfl (o_alloc zeroValue31 rfl rfl) (TOk.xP 6 [] Ψ (TOk.xP 6 [] Ψ TOk.d)) ?_
    refine eaB ?_; intro b4
    refine dfB 13 Ψ ?_
    refine doRB rfl (o_st rfl sizeOf31 rfl rfl rfl rfl rfl Θ Θ Θ) (TOk.xP 6 [] Ψ (TOk.xP 6 [] Ψ TOk.d)) ?_
    refine dfB 14 Ψ ?_
    refine doRB rfl (o_st rfl sizeOf31 rfl rfl rfl rfl rfl Θ Θ Θ) (TOk.xP 6 [] Ψ (TOk.xP 6 [] Ψ TOk.d)) ?_
    refine t_ 15 1 ?_
    refine dnB Ψ (nmid (fun a w h => by first | exact ⟨b4, b5, z1, z2, wL [1, 0] h⟩ | exact ⟨b4, b5, z1, z2, wL [0, 0] h⟩))
  ·
   refine doRB rfl (o_alloc zeroValue31 rfl rfl) (TOk.t (isBoxE fun _ => isInS Θ (k := 0) rfl (z := 4) Δ) (TOk.t (isBoxE fun _ => isInS Θ (k := 0) rfl (z := 4) Δ) TOk.d)) ?_
   refine eaB ?_; intro b4
   refine dallB (is := [6, 12]) Ψ rfl ?_
   intro i hi; simp only [List.mem_cons, List.mem_nil_iff, or_false] at hi; rcases hi with rfl | rfl
   ·
    refine doRB rfl (o_call (is := []) call9 (c_nSwap qA qB zyp zyq fitqA fitqB) rfl rfl Ω rfl) (TOk.xP 6 [] Ψ (TOk.xP 6 [] Ψ TOk.d)) ?_
    refine eaB ?_; rintro ⟨⟨⟨r1, r2, r3⟩, z1, z2⟩, hr⟩
    obtain ⟨rfl, rfl, rfl⟩ := pthree (hr.trans al2)
    refine t_ 7 4 ?_
    refine dfB 12 Ψ ?_
    refine doRB rfl (o_alloc zeroValue31 rfl rfl) (TOk.xP 6 [] Ψ (TOk.xP 6 [] Ψ TOk.d)) ?_
    refine eaB ?_; intro b5
    refine dfB 13 Ψ ?_
    refine doRB rfl (o_st rfl sizeOf31 rfl rfl rfl rfl rfl Θ Θ Θ) (TOk.xP 6 [] Ψ (TOk.xP 6 [] Ψ TOk.d)) ?_
    refine dfB 14 Ψ ?_
    refine doRB rfl (o_st rfl sizeOf31 rfl rfl rfl rfl rfl Θ Θ Θ) (TOk.xP 6 [] Ψ (TOk.xP 6 [] Ψ TOk.d)) ?_
    refine t_ 15 1 ?_
    refine dnB Ψ (nmid (fun a w h => by first | exact ⟨b4, b5, z1, z2, wL [1, 0] h⟩ | exact ⟨b4, b5, z1, z2, wL [0, 0] h⟩))
   ·
    refine doRB rfl (o_alloc zeroValue31 rfl rfl) (TOk.t (isBoxE fun _ => isInS Θ (k := 0) rfl (z := 4) Δ) (TOk.t (isBoxE fun _ => isInS Θ (k := 0) rfl (z := 4) Δ) TOk.d)) ?_
    refine eaB ?_; intro b5
    refine dfB 6 Ψ ?_
    refine doRB rfl (o_call (is := []) call9 (c_nSwap qA qB zyp zyq fitqA fitqB) rfl rfl Ω rfl) (TOk.xP 6 [] Ψ (TOk.xP 6 [] Ψ TOk.d)) ?_
    refine eaB ?_; rintro ⟨⟨⟨r1, r2, r3⟩, z1, z2⟩, hr⟩
    obtain ⟨rfl, rfl, rfl⟩ := pthree (hr.trans al2)
    refine t_ 7 4 ?_
    refine dfB 13 Ψ ?_
    refine doRB rfl (o_st rfl sizeOf31 rfl rfl rfl rfl rfl Θ Θ Θ) (TOk.xP 6 [] Ψ (TOk.xP 6 [] Ψ TOk.d)) ?_
    refine dfB 14 Ψ ?_
    refine doRB rfl (o_st rfl sizeOf31 rfl rfl rfl rfl rfl Θ Θ Θ) (TOk.xP 6 [] Ψ (TOk.xP 6 [] Ψ TOk.d)) ?_
    refine t_ 15 1 ?_
    refine dnB Ψ (nmid (fun a w h => by first | exact ⟨b4, b5, z1, z2, wL [1, 0] h⟩ | exact ⟨b4, b5, z1, z2, wL [0, 0] h⟩))
  ·
   refine doRB rfl (o_alloc zeroValue31 rfl rfl) (TOk.t (isBoxE fun _ => isInS Θ (k := 0) rfl (z := 4) Δ) (TOk.t (isBoxE fun _ => isInS Θ (k := 0) rfl (z := 4) Δ) TOk.d)) ?_
   refine eaB ?_; intro b5
   refine dallB (is := [6, 11]) Ψ rfl ?_
   intro i hi; simp only [List.mem_cons, List.mem_nil_iff, or_false] at hi; rcases hi with rfl | rfl
   ·
    refine doRB rfl (o_call (is := []) call9 (c_nSwap qA qB zyp zyq fitqA fitqB) rfl rfl Ω rfl) (TOk.xP 6 [] Ψ (TOk.xP 6 [] Ψ TOk.d)) ?_
    refine eaB ?_; rintro ⟨⟨⟨r1, r2, r3⟩, z1, z2⟩, hr⟩
    obtain ⟨rfl, rfl, rfl⟩ := pthree (hr.trans al2)
    refine t_ 7 4 ?_
    refine dfB 11 Ψ ?_
    refine doRB rfl (o_alloc zeroValue31 rfl rfl) (TOk.xP 6 [] Ψ (TOk.xP 6 [] Ψ TOk.d)) ?_
    refine eaB ?_; intro b4
    refine dfB 13 Ψ ?_
    refine doRB rfl (o_st rfl sizeOf31 rfl rfl rfl rfl rfl Θ Θ Θ) (TOk.xP 6 [] Ψ (TOk.xP 6 [] Ψ TOk.d)) ?_
    refine dfB 14 Ψ ?_
    refine doRB rfl (o_st rfl sizeOf31 rfl rfl rfl rfl rfl Θ Θ Θ) (TOk.xP 6 [] Ψ (TOk.xP 6 [] Ψ TOk.d)) ?_
    refine t_ 15 1 ?_
    refine dnB Ψ (nmid (fun a w h => by first | exact ⟨b4, b5, z1, z2, wL [1, 0] h⟩ | exact ⟨b4, b5, z1, z2, wL [0, 0] h⟩))
   ·
    refine doRB rfl (o_alloc zeroValue31 rfl rfl) (TOk.t (isBoxE fun _ => isInS Θ (k := 0) rfl (z := 4) Δ) (TOk.t (isBoxE fun _ => isInS Θ (k := 0) rfl (z := 4) Δ) TOk.d)) ?_
    refine eaB ?_; intro b4
    refine dfB 6 Ψ ?_
    refine doRB rfl (o_call (is := []) call9 (c_nSwap qA qB zyp zyq fitqA fitqB) rfl rfl Ω rfl) (TOk.xP 6 [] Ψ (TOk.xP 6 [] Ψ TOk.d)) ?_
    refine eaB ?_; rintro ⟨⟨⟨r1, r2, r3⟩, z1, z2⟩, hr⟩
    obtain ⟨rfl, rfl, rfl⟩ := pthree (hr.trans al2)
    refine t_ 7 4 ?_
    refine dfB 13 Ψ ?_
    refine doRB rfl (o_st rfl sizeOf31 rfl rfl rfl rfl rfl Θ Θ Θ) (TOk.xP 6 [] Ψ (TOk.xP 6 [] Ψ TOk.d)) ?_
    refine dfB 14 Ψ ?_
    refine doRB rfl (o_st rfl sizeOf31 rfl rfl rfl rfl rfl Θ Θ Θ) (TOk.xP 6 [] Ψ (TOk.xP 6 [] Ψ TOk.d)) ?_
    refine t_ 15 1 ?_
    refine dnB Ψ (nmid (fun a w h => by first | exact ⟨b4, b5, z1, z2, wL [1, 0] h⟩ | exact ⟨b4, b5, z1, z2, wL [0, 0] h⟩))
 ·
  refine nex fun b4 => nex fun b5 => nex fun z1 => nex fun z2 => ?_
  refine k_ 2 ?_
  refine cmono (fun a w h => subS (l := [qA, qB, qC]) (l' := [qA, qB]) (c := 3) 0 2 (by repeat (first | exact In.z | apply In.s)) (by decide) (by decide) (by decide) rfl h) ?_
  refine k_ 2 ?_
  refine ls (op (p_slh 2 (by decide) rfl underlying36 sizeOf31 rfl rfl) rfl) ?_
  refine k_ 1 ?_
  refine ls (o_bsl [aC] underlying29 sizeOf39 zeroValue39 rfl (Enum.t Enum.d) (RV.t ((none, 0), (none, 0)) rfl Ω RV.d) rfl (by decide) (by decide) rfl) ?_
  refine le ?_; intro b41
  refine lmono (fun a w h => freezeN (i := 0) rfl h) ?_
  refine k_ 1 ?_
  refine lC [] call16 (c_nPastD [qA, qB] _ _ (by decide) fit2 qD ((none, 0), (some ⟨b41, 0, none⟩, 1)) fitqD) ?_; rintro ⟨⟨⟨q1, rest1, b3⟩, ⟨yq1, ⟨A1, c1⟩⟩⟩, hr⟩
  obtain ⟨rfl, rfl, rfl⟩ := pthr2 (hr.trans al3)
  refine k_ 4 ?_
  refine ls (o_alloc zeroValue31 rfl rfl) ?_
  refine le ?_; intro b7
  refine k_ 6 ?_
  refine cmono (fun a w h => nilC (α := Prim) h) ?_
  refine cmono (fun a w h => nilSl (α := Int) h) ?_
  refine elC Θ 0 ((show ([qA, qC] : List Patch)[0]? = some qA from rfl)) ?_; rintro zbp zop zyp hAp
  refine elC Θ 1 ((show ([qA, qC] : List Patch)[1]? = some qC from rfl)) ?_; rintro zbq zoq zyq hAq
  refine elC Θ 0 ((show ([qB] : List Patch)[0]? = some qB from rfl)) ?_; rintro zbs zos zys hAs
  refine elC Θ 0 ((show ([qA, qB, qC] : List Patch)[0]? = some qA from rfl)) ?_; rintro zbt zot zyt hAt
  refine elC Θ 1 ((show ([qA, qB, qC] : List Patch)[1]? = some qB from rfl)) ?_; rintro zbu zou zyu hAu
  refine elC Θ 2 ((show ([qA, qB, qC] : List Patch)[2]? = some qC from rfl)) ?_; rintro zbv zov zyv hAv
  refine cdB [37, 44, 45, 67, 73, 77] [(7, zbp, zop + 0 * Rp.size Patch, _), (14, zbq, zoq + 1 * Rp.size Patch, _), (26, zbs, zos + 0 * Rp.size Patch, _), (33, b4, 0, _), (36, zbu, zou + 1 * Rp.size Patch, _), (40, b5, 0, _), (43, zbt, zot + 0 * Rp.size Patch, _), (52, b7, 0, _), (63, zbt, zot + 0 * Rp.size Patch, _), (66, zbv, zov + 2 * Rp.size Patch, _), (72, zbt, zot + 0 * Rp.size Patch, _)] TryzX.mixed Ψ Ψ (TOk.t (isInS Θ (k := 0) rfl (z := 1) Δ) (TOk.t (isInS Θ (k := 0) rfl (z := 1) Δ) (TOk.t (isInS Θ (k := 0) rfl (z := 1) Δ) (TOk.t (isBoxS Θ (k := 4) Δ) (TOk.t (isInS Θ (k := 0) rfl (z := 4) Δ) (TOk.t (isBoxS Θ (k := 4) Δ) (TOk.t (isInS Θ (k := 0) rfl (z := 4) Δ) (TOk.t (isBoxS Θ (k := 1) Δ) (TOk.t (isInS Θ (k := 0) rfl (z := 4) Δ) (TOk.t (isInS Θ (k := 0) rfl (z := 4) Δ) (TOk.t (isInS Θ (k := 0) rfl (z := 4) Δ) TOk.d))))))))))) ?_
  refine t_ 0 5 ?_
  refine tkB 5 rfl Ψ Υ (gyes rfl rfl rfl rfl) (TTany _) (p_ia 0 hAp (by decide) rfl underlying36 sizeOf31 rfl rfl) rfl ?_
  refine t_ 6 1 ?_
  refine tkB 7 rfl Ψ Υ (gyes rfl rfl rfl rfl) (TTat (List.Mem.head _)) (p_ld isAgg3 rfl) rfl ?_
  refine t_ 8 4 ?_
  refine tkB 12 rfl Ψ Υ (gyes rfl rfl rfl rfl) (TTany _) (p_ia 1 hAq (by decide) rfl underlying36 sizeOf31 rfl rfl) rfl ?_
  refine t_ 13 1 ?_
  refine tkB 14 rfl Ψ Υ (gyes rfl rfl rfl rfl) (TTat (List.Mem.tail _ (List.Mem.head _))) (p_ld isAgg3 rfl) rfl ?_
  refine t_ 15 9 ?_
  refine tkB 24 rfl Ψ Υ (gyes rfl rfl rfl rfl) (TTany _) (p_ia 0 hAs (by decide) rfl underlying36 sizeOf31 rfl rfl) rfl ?_
  refine t_ 25 1 ?_
  refine tkB 26 rfl Ψ Υ (gyes rfl rfl rfl rfl) (TTat (List.Mem.tail _ (List.Mem.tail _ (List.Mem.head _)))) (p_ld isAgg3 rfl) rfl ?_
  refine t_ 27 6 ?_
  refine tkB 33 rfl Ψ Υ (gyes rfl rfl rfl rfl) (TTat (List.Mem.tail _ (List.Mem.tail _ (List.Mem.tail _ (List.Mem.head _))))) (p_lda isAgg31 sizeOf31 rfl rfl) rfl ?_
  refine t_ 34 1 ?_
  refine tkB 35 rfl Ψ Υ (gyes rfl rfl rfl rfl) (TTany _) (p_ia 1 hAu (by decide) rfl underlying36 sizeOf31 rfl rfl) rfl ?_
  refine tkB 36 rfl Ψ Υ (gyes rfl rfl rfl rfl) (TTat (List.Mem.tail _ (List.Mem.tail _ (List.Mem.tail _ (List.Mem.tail _ (List.Mem.head _)))))) (p_lda isAgg31 sizeOf31 rfl rfl) rfl ?_
  refine dfB 37 Ψ ?_
  refine doGB rfl rfl rfl rfl rfl (o_call (is := []) call17 (c_nSame qB qB _ zyu fitqB fitqB) rfl rfl Ω rfl) (TOk.xP 37 [32, 29, 22, 17, 10, 9, 8] Ψ (TOk.xP 37 [32, 29, 22, 17, 16, 15] Ψ (TOk.xP 37 [32, 29, 28, 27] Ψ (TOk.xP 37 [] Ψ (TOk.xP 37 [] Ψ (TOk.t (isBoxE fun _ => isBoxS Θ (k := 4) Δ) (TOk.t (isBoxE fun _ => isInS Θ (k := 0) rfl (z := 4) Δ) (TOk.t (isBoxE fun _ => isBoxS Θ (k := 1) Δ) (TOk.t (isBoxE fun _ => isInS Θ (k := 0) rfl (z := 4) Δ) (TOk.t (isBoxE fun _ => isInS Θ (k := 0) rfl (z := 4) Δ) (TOk.t (isBoxE fun _ => isInS Θ (k := 0) rfl (z := 4) Δ) TOk.d))))))))))) ?_
  refine eaB ?_; intro x84
  refine fixB (congrArg Value.bool (decide_eq_true rfl)) ?_
  refine t_ 38 2 ?_
  refine tkB 40 rfl Ψ Υ (gyes rfl rfl rfl rfl) (TTat (List.Mem.tail _ (List.Mem.tail _ (List.Mem.tail _ (List.Mem.tail _ (List.Mem.tail _ (List.Mem.head _))))))) (p_lda isAgg31 sizeOf31 rfl rfl) rfl ?_
  refine t_ 41 1 ?_
  refine tkB 42 rfl Ψ Υ (gyes rfl rfl rfl rfl) (TTany _) (p_ia 0 hAt (by decide) rfl underlying36 sizeOf31 rfl rfl) rfl ?_
  refine tkB 43 rfl Ψ Υ (gyes rfl rfl rfl rfl) (TTat (List.Mem.tail _ (List.Mem.tail _ (List.Mem.tail _ (List.Mem.tail _ (List.Mem.tail _ (List.Mem.tail _ (List.Mem.head _)))))))) (p_lda isAgg31 sizeOf31 rfl rfl) rfl ?_
  refine dfB 44 Ψ ?_
  refine doGB rfl rfl rfl rfl rfl (o_call (is := []) call7 (c_nClone qA zyt fitqA) rfl rfl Ω rfl) (TOk.xP 37 [32, 29, 22, 17, 10, 9, 8] Ψ (TOk.xP 37 [32, 29, 22, 17, 16, 15] Ψ (TOk.xP 37 [32, 29, 28, 27] Ψ (TOk.xP 37 [] Ψ (TOk.xP 37 [] Ψ (TOk.t (isBoxE fun _ => isBoxS Θ (k := 4) Δ) (TOk.xP 44 [] Ψ (TOk.t (isBoxE fun _ => isBoxS Θ (k := 1) Δ) (TOk.t (isBoxE fun _ => isInS Θ (k := 0) rfl (z := 4) Δ) (TOk.t (isBoxE fun _ => isInS Θ (k := 0) rfl (z := 4) Δ) (TOk.t (isBoxE fun _ => isInS Θ (k := 0) rfl (z := 4) Δ) TOk.d))))))))))) ?_
  refine eaB ?_; intro y91
  refine dfB 45 Ψ ?_
  refine doGB rfl rfl rfl rfl rfl (o_call (is := []) call17 (c_nSame qA qA _ y91 fitqA fitqA) rfl rfl Ω rfl) (TOk.xP 37 [32, 29, 22, 17, 10, 9, 8] Ψ (TOk.xP 37 [32, 29, 22, 17, 16, 15] Ψ (TOk.xP 37 [32, 29, 28, 27] Ψ (TOk.xP 37 [] Ψ (TOk.xP 37 [] Ψ (TOk.xP 45 [] Ψ (TOk.xP 44 [] Ψ (TOk.t (isBoxE fun _ => isBoxS Θ (k := 1) Δ) (TOk.t (isBoxE fun _ => isInS Θ (k := 0) rfl (z := 4) Δ) (TOk.t (isBoxE fun _ => isInS Θ (k := 0) rfl (z := 4) Δ) (TOk.t (isBoxE fun _ => isInS Θ (k := 0) rfl (z := 4) Δ) TOk.d))))))))))) ?_
  refine eaB ?_; intro x92
  refine fixB (congrArg Value.bool (decide_eq_true rfl)) ?_
  refine t_ 46 6 ?_
  refine tkB 52 rfl Ψ Υ (gyes rfl rfl rfl rfl) (TTat (List.Mem.tail _ (List.Mem.tail _ (List.Mem.tail _ (List.Mem.tail _ (List.Mem.tail _ (List.Mem.tail _ (List.Mem.tail _ (List.Mem.head _))))))))) (p_ld isAgg3 rfl) rfl ?_
  refine t_ 53 9 ?_
  refine tkB 62 rfl Ψ Υ (gyes rfl rfl rfl rfl) (TTany _) (p_ia 0 hAt (by decide) rfl underlying36 sizeOf31 rfl rfl) rfl ?_
  refine tkB 63 rfl Ψ Υ (gyes rfl rfl rfl rfl) (TTat (List.Mem.tail _ (List.Mem.tail _ (List.Mem.tail _ (List.Mem.tail _ (List.Mem.tail _ (List.Mem.tail _ (List.Mem.tail _ (List.Mem.tail _ (List.Mem.head _)))))))))) (p_lda isAgg31 sizeOf31 rfl rfl) rfl ?_
  refine t_ 64 1 ?_
  refine tkB 65 rfl Ψ Υ (gyes rfl rfl rfl rfl) (TTany _) (p_ia 2 hAv (by decide) rfl underlying36 sizeOf31 rfl rfl) rfl ?_
  refine tkB 66 rfl Ψ Υ (gyes rfl rfl rfl rfl) (TTat (List.Mem.tail _ (List.Mem.tail _ (List.Mem.tail _ (List.Mem.tail _ (List.Mem.tail _ (List.Mem.tail _ (List.Mem.tail _ (List.Mem.tail _ (List.Mem.tail _ (List.Mem.head _))))))))))) (p_lda isAgg31 sizeOf31 rfl rfl) rfl ?_
  refine dfB 67 Ψ ?_
  refine doGB rfl rfl rfl rfl rfl (o_call (is := []) call18 (c_nNeeds qA qC zyt zyv fitqA fitqC) rfl rfl Ω rfl) (TOk.xP 37 [32, 29, 22, 17, 10, 9, 8] Ψ (TOk.xP 37 [32, 29, 22, 17, 16, 15] Ψ (TOk.xP 37 [32, 29, 28, 27] Ψ (TOk.xP 37 [] Ψ (TOk.xP 37 [] Ψ (TOk.xP 45 [] Ψ (TOk.xP 44 [] Ψ (TOk.xP 67 [60, 55, 54, 53] Ψ (TOk.xP 67 [] Ψ (TOk.xP 67 [] Ψ (TOk.t (isBoxE fun _ => isInS Θ (k := 0) rfl (z := 4) Δ) TOk.d))))))))))) ?_
  refine eaB ?_; intro x114
  refine fixB (congrArg Value.bool al7) ?_
  refine t_ 68 3 ?_
  refine tkB 71 rfl Ψ Υ (gyes rfl rfl rfl rfl) (TTany _) (p_ia 0 hAt (by decide) rfl underlying36 sizeOf31 rfl rfl) rfl ?_
  refine tkB 72 rfl Ψ Υ (gyes rfl rfl rfl rfl) (TTat (List.Mem.tail _ (List.Mem.tail _ (List.Mem.tail _ (List.Mem.tail _ (List.Mem.tail _ (List.Mem.tail _ (List.Mem.tail _ (List.Mem.tail _ (List.Mem.tail _ (List.Mem.tail _ (List.Mem.head _)))))))))))) (p_lda isAgg31 sizeOf31 rfl rfl) rfl ?_
  refine dfB 73 Ψ ?_
  refine doGB rfl rfl rfl rfl rfl (o_call (is := []) call19 (c_nRight qA zyt fitqA) rfl rfl Ω rfl) (TOk.xP 37 [32, 29, 22, 17, 10, 9, 8] Ψ (TOk.xP 37 [32, 29, 22, 17, 16, 15] Ψ (TOk.xP 37 [32, 29, 28, 27] Ψ (TOk.xP 37 [] Ψ (TOk.xP 37 [] Ψ (TOk.xP 45 [] Ψ (TOk.xP 44 [] Ψ (TOk.xP 67 [60, 55, 54, 53] Ψ (TOk.xP 67 [] Ψ (TOk.xP 67 [] Ψ (TOk.xP 73 [] Ψ TOk.d))))))))))) ?_
  refine eaB ?_; intro x120
  refine fixB (congrArg Value.bool al5) ?_
  refine t_ 74 3 ?_
  refine dfB 77 Ψ ?_
  refine doGB rfl rfl rfl rfl rfl (o_call (is := []) call19 (c_nRight Patch.zero ((none, 0), (none, 0)) pzero_fit) rfl rfl Ω rfl) (TOk.xP 37 [32, 29, 22, 17, 10, 9, 8] Ψ (TOk.xP 37 [32, 29, 22, 17, 16, 15] Ψ (TOk.xP 37 [32, 29, 28, 27] Ψ (TOk.xP 37 [] Ψ (TOk.xP 37 [] Ψ (TOk.xP 45 [] Ψ (TOk.xP 44 [] Ψ (TOk.xP 67 [60, 55, 54, 53] Ψ (TOk.xP 67 [] Ψ (TOk.xP 67 [] Ψ (TOk.xP 73 [] Ψ TOk.d))))))))))) ?_
  refine eaB ?_; intro x124
  refine fixB (congrArg Value.bool al6) ?_
  refine t_ 78 3 ?_
  refine dnB Ψ ?_
  refine k_ 3 ?_
  exact rR [] ()
end Go.Proofs.YtmikcpaaomamiaaGreatDoor.X
end
section
set_option linter.unusedVariables false
set_option linter.unusedSimpArgs false
namespace Go.Sx
open Go Go.RowKit
/-! A table: a row of one's own of slices whose arrays are one's own, too. -/
structure Hdr where
  A : Option Addr
  n : Nat
  c : Nat
instance instRpHdr : Rp Hdr where
  Lay := Unit
  size := 1
  enc h _ := [.slice h.A h.n h.c]
  len _ _ := rfl
  one _ _ v hv := by
    simp only [List.mem_cons, List.mem_nil_iff, or_false] at hv
    subst hv; rfl
  asn _ _ := []
theorem row_at {α : Type} [Rp α] {e : TypeId} {g c : Nat} {l : List α} {F M : Nat → Prop} {w : World} (h : (row e (some ⟨g, 0, none⟩) c l).p F M w) {j : Nat} {x : α} (hj : l[j]? = some x) :
    ∃ y : Rp.Lay α, Is g (0 + j * Rp.size α) (Rp.enc x y) w ∧ ∀ p ∈ Rp.asn x y, p.p M w := by
  obtain ⟨xs, ho, _, hr⟩ := h
  obtain ⟨y, h1, h2⟩ := hr.at j x hj
  refine ⟨y, fun q v hq => ?_, h2⟩
  rcases ho.2 with ⟨h0, _⟩ | ⟨g', cap, cur, hv, _, hb, _, _, hsz, hxs⟩
  · cases h0
  · cases hv
    have h3 := h1 q v hq
    rw [← hxs] at h3
    have hlt := (List.getElem?_eq_some_iff.1 h3).1
    rw [List.length_take] at hlt
    rw [List.getElem?_take_of_lt (by omega)] at h3
    simp only [World.cell?, hb, Option.isSome_none, Bool.false_eq_true, if_false]
    rw [Nat.zero_add, ← Array.getElem?_toList]
    exact h3
theorem row_own {α : Type} [Rp α] {e : TypeId} {g c : Nat} {l : List α} {F M : Nat → Prop} {w : World} (h : (row e (some ⟨g, 0, none⟩) c l).p F M w) : (∀ b, F b ↔ b = g) ∧ g < w.heap.size := by
  obtain ⟨xs, ho, hF, hr⟩ := h
  refine ⟨fun b => by rw [hF b]; exact ⟨fun h => (Option.some.inj h).symm, fun h => by rw [h]; rfl⟩, ?_⟩
  rcases ho.2 with ⟨h0, _⟩ | ⟨g', cap, cur, hv, _, hb, _, _, hsz, hxs⟩
  · cases h0
  · cases hv; exact (Array.getElem?_eq_some_iff.1 hb).1
section
variable {ro : Option Nat} {P : Program} {M0 F0 : Nat → Prop} {w0 : World} {n : Nm} {σ : List (Nat × Value)} {Ξ : List Xsn} {Γ : List Asn} {d : Nat} {ty : TypeId} {pos : String} {af : Array Edge}
variable {ops : Array Oper} {Q : Exit → Act → World → Prop} {S S' : Act → World → Prop} {β : Type} [Rp β]
theorem o_pT {o : Op} {v : Value} {T : World → Prop} (h : Pu P n σ T ⟨some d, o, ty, pos, af, none⟩ v) (hT : ∀ a w, St M0 F0 w0 n σ Ξ Γ a w → T w) (hd : Nat.blt d n.n = true) : OpR P ⟨some d, o, ty, pos, af, none⟩ (St M0 F0 w0 n σ Ξ Γ) (St M0 F0 w0 n ((d, v) :: σ) Ξ Γ) :=
  OpR.of_run rfl fun a w hS => ⟨v, w, h a hS.1 w (hT a w hS), hS.1.put hd, hS.2⟩
theorem isRowI {e : TypeId} {g c i j : Nat} {l : List Int} {x : Int} (hi : At (row (α := Int) e (some ⟨g, 0, none⟩) c l) i Ξ) (hj : l[j]? = some x) : ∀ a w, St M0 F0 w0 n σ Ξ Γ a w → Is g (0 + j * Rp.size Int) [.int .i64 x] w := by
  rintro a w ⟨_, Fs, hh⟩
  obtain ⟨_, h1, _⟩ := rowAt hi hj hh
  exact h1
end
def hd (M : Nat) (gs : List Nat) (N : Nat) : List Hdr := gs.map (fun b => ⟨some ⟨b, 0, none⟩, M, M⟩) ++ List.replicate (N - gs.length) ⟨none, 0, 0⟩
instance instRpPair : Rp (Nat × Nat) where
  Lay := Unit
  size := 2
  enc x _ := [.int .i64 (x.1 : Int), .int .i64 (x.2 : Int)]
  len _ _ := rfl
  one _ _ v hv := by
    simp only [List.mem_cons, List.mem_nil_iff, or_false] at hv
    rcases hv with rfl | rfl <;> rfl
  asn _ _ := []
end Go.Sx
end
section
set_option linter.unusedVariables false
set_option linter.unusedSimpArgs false
namespace Go.Sx
open Go Go.RowKit
/-! Several things of one's own in one, and such of which only that there are some is told. -/
def bunX (xs : List Xsn) : Xsn where
  p F M w := ∃ Fs, all2 M w xs Fs ∧ Fs.Pairwise (fun F G => ∀ b, F b → ¬ G b) ∧ ∀ b, F b ↔ own Fs b
  st := by
    rintro F M M' w w' ⟨Fs, h1, h2, h3⟩ hb hm hs
    exact ⟨Fs, h1.st (fun b hlt hF => hb b hlt (hF.imp (h3 b).2 id)) hm hs, h2, h3⟩
variable {ro : Option Nat} {P : Program} {M0 F0 : Nat → Prop} {w0 : World} {n : Nm} {σ : List (Nat × Value)} {Ξ : List Xsn} {Γ : List Asn} {d : Nat} {ty : TypeId} {pos : String} {af : Array Edge}
variable {ops : Array Oper} {Q : Exit → Act → World → Prop} {S S' : Act → World → Prop}
theorem Hp.repart {Ξ' : List Xsn} {Fs Fs' : List (Nat → Prop)} {w : World} (h : Hp M0 F0 w0 Ξ Γ Fs w) (ho : ∀ b, own Fs' b ↔ own Fs b) (hx : all2 (fun b => M0 b ∨ own Fs b) w Ξ' Fs') (hd : Fs'.Pairwise (fun F G => ∀ b, F b → ¬ G b)) : Hp M0 F0 w0 Ξ' Γ Fs' w := by
  have e : (fun b => M0 b ∨ own Fs' b) = (fun b => M0 b ∨ own Fs b) := funext fun b => propext (or_congr Iff.rfl (ho b))
  refine ⟨?_, hd, fun b hb => h.dis0 b ((ho b).1 hb), fun b hb => h.lt b ((ho b).1 hb), fun b hb => h.old b ((ho b).1 hb), ?_, h.up, h.m0, h.f0⟩
  · rw [e]; exact hx
  · rw [e]; exact h.ga
theorem Hp.front {Ξ' : List Xsn} {x : Xsn} {i : Nat} {Fs : List (Nat → Prop)} {w : World} (h : Hp M0 F0 w0 Ξ Γ Fs w) (hi : takeAt i Ξ = some (x, Ξ')) : ∃ F Fs', Hp M0 F0 w0 (x :: Ξ') Γ (F :: Fs') w := by
  obtain ⟨F, Fs', h1, h2, h3⟩ := h.ex.takeAt hi
  have hp := takeAt_perm h1
  exact ⟨F, Fs', h.repart (fun b => (own_perm hp b).symm) ⟨h2, h3⟩ (perm_pairwise hp h.dis)⟩
theorem St.front {Ξ' : List Xsn} {x : Xsn} {i : Nat} {a : Act} {w : World} (hi : takeAt i Ξ = some (x, Ξ')) (h : St M0 F0 w0 n σ Ξ Γ a w) : St M0 F0 w0 n σ (x :: Ξ') Γ a w := by
  obtain ⟨hs, Fs, hh⟩ := h
  obtain ⟨F, Fs', h1⟩ := hh.front hi
  exact ⟨hs, _, h1⟩
theorem St.unbun {Ξ' xs : List Xsn} {i : Nat} {a : Act} {w : World} (hi : takeAt i Ξ = some (bunX xs, Ξ')) (h : St M0 F0 w0 n σ Ξ Γ a w) : St M0 F0 w0 n σ (xs ++ Ξ') Γ a w := by
  obtain ⟨hs, Fs, hh⟩ := h.front hi
  cases Fs with
  | nil => exact hh.ex.elim
  | cons F Fs =>
    obtain ⟨Gs, h1, h2, h3⟩ := hh.ex.1
    have hd := List.pairwise_cons.1 hh.dis
    refine ⟨hs, Gs ++ Fs, hh.repart (fun b => ?_) (all2.append h1 hh.ex.2) (List.pairwise_append.2 ⟨h2, hd.2, fun G hG H hH b hb => hd.1 H hH b ((h3 b).2 ⟨G, hG, hb⟩)⟩)⟩
    rw [own_append, own_cons, h3 b]
theorem St.mkbun {xs : List Xsn} {a : Act} {w : World} (h : St M0 F0 w0 n σ (xs ++ Ξ) Γ a w) : St M0 F0 w0 n σ (bunX xs :: Ξ) Γ a w := by
  obtain ⟨hs, Fs, hh⟩ := h
  obtain ⟨Gs, Hs, e, h1, h2⟩ := all2.split hh.ex
  subst e
  obtain ⟨d1, d2, d3⟩ := List.pairwise_append.1 hh.dis
  refine ⟨hs, own Gs :: Hs, hh.repart (fun b => by rw [own_cons, own_append]) ⟨⟨Gs, h1, d1, fun b => Iff.rfl⟩, h2⟩ (List.pairwise_cons.2 ⟨fun H hH b ⟨G, hG, hb⟩ => d3 G hG H hH b hb, d2⟩)⟩
theorem St.unex {α : Type} {f : α → Xsn} {Ξ' : List Xsn} {i : Nat} {a : Act} {w : World} (hi : takeAt i Ξ = some (exX f, Ξ')) (h : St M0 F0 w0 n σ Ξ Γ a w) : ∃ z, St M0 F0 w0 n σ (f z :: Ξ') Γ a w := by
  obtain ⟨hs, Fs, hh⟩ := h.front hi
  cases Fs with
  | nil => exact hh.ex.elim
  | cons F Fs =>
    obtain ⟨z, hz⟩ := hh.ex.1
    exact ⟨z, hs, F :: Fs, hh.repart (fun b => Iff.rfl) ⟨hz, hh.ex.2⟩ hh.dis⟩
theorem St.mkex {α : Type} {f : α → Xsn} (z : α) {a : Act} {w : World} (h : St M0 F0 w0 n σ (f z :: Ξ) Γ a w) : St M0 F0 w0 n σ (exX f :: Ξ) Γ a w := by
  obtain ⟨hs, Fs, hh⟩ := h
  cases Fs with
  | nil => exact hh.ex.elim
  | cons F Fs => exact ⟨hs, F :: Fs, hh.repart (fun b => Iff.rfl) ⟨⟨z, hh.ex.1⟩, hh.ex.2⟩ hh.dis⟩
theorem St.pick {xs ys : List Xsn} {x : Xsn} {a : Act} {w : World} (h : St M0 F0 w0 n σ (bunX (xs ++ x :: ys) :: Ξ) Γ a w) : St M0 F0 w0 n σ (x :: bunX (xs ++ ys) :: Ξ) Γ a w := by
  obtain ⟨hs, Fs, hh⟩ := h
  cases Fs with
  | nil => exact hh.ex.elim
  | cons F Fs =>
    obtain ⟨Gs, h1, h2, h3⟩ := hh.ex.1
    obtain ⟨G1, G2, e, k1, k2⟩ := all2.split h1
    subst e
    cases G2 with
    | nil => exact k2.elim
    | cons G G2 =>
      have hd := List.pairwise_cons.1 hh.dis
      obtain ⟨d1, d2, d3⟩ := List.pairwise_append.1 h2
      obtain ⟨d4, d5⟩ := List.pairwise_cons.1 d2
      have hown : ∀ b, own (G1 ++ G :: G2) b ↔ G b ∨ own (G1 ++ G2) b := fun b => by rw [own_append, own_cons, own_append]; exact or_left_comm
      refine ⟨hs, G :: own (G1 ++ G2) :: Fs, hh.repart (fun b => ?_) ⟨k2.1, ⟨G1 ++ G2, all2.append k1 k2.2, List.pairwise_append.2 ⟨d1, d5, fun H hH K hK => d3 H hH K (List.mem_cons_of_mem _ hK)⟩, fun b => Iff.rfl⟩, hh.ex.2⟩ ?_⟩
      · rw [own_cons, own_cons, own_cons, h3 b, hown b, or_assoc]
      · refine List.pairwise_cons.2 ⟨fun H hH => ?_, List.pairwise_cons.2 ⟨fun H hH b hb => hd.1 H hH b ((h3 b).2 ((hown b).2 (.inr hb))), hd.2⟩⟩
        rcases List.mem_cons.1 hH with rfl | hH
        · rintro b hb ⟨K, hK, hKb⟩
          rcases List.mem_append.1 hK with hK | hK
          · exact d3 K hK G (by simp) b hKb hb
          · exact d4 K hK b hb hKb
        · exact fun b hb => hd.1 H hH b ((h3 b).2 ((hown b).2 (.inl hb)))
theorem St.unpick {xs ys : List Xsn} {x : Xsn} {a : Act} {w : World} (h : St M0 F0 w0 n σ (x :: bunX (xs ++ ys) :: Ξ) Γ a w) : St M0 F0 w0 n σ (bunX (xs ++ x :: ys) :: Ξ) Γ a w := by
  obtain ⟨hs, Fs, hh⟩ := h
  match Fs, hh with
  | [], hh => exact hh.ex.elim
  | [_], hh => exact hh.ex.2.elim
  | G :: F :: Fs, hh =>
    obtain ⟨Gs, h1, h2, h3⟩ := hh.ex.2.1
    obtain ⟨G1, G2, e, k1, k2⟩ := all2.split h1
    subst e
    obtain ⟨d0, hd⟩ := List.pairwise_cons.1 hh.dis
    have hd := List.pairwise_cons.1 hd
    obtain ⟨d1, d2, d3⟩ := List.pairwise_append.1 h2
    have hown : ∀ b, own (G1 ++ G :: G2) b ↔ G b ∨ own (G1 ++ G2) b := fun b => by rw [own_append, own_cons, own_append]; exact or_left_comm
    have hGF : ∀ b, G b → ¬ own (G1 ++ G2) b := fun b hb hk => d0 F (by simp) b hb ((h3 b).2 hk)
    refine ⟨hs, own (G1 ++ G :: G2) :: Fs, hh.repart (fun b => ?_) ⟨⟨G1 ++ G :: G2, all2.append k1 ⟨hh.ex.1, k2⟩, List.pairwise_append.2 ⟨d1, List.pairwise_cons.2 ⟨fun K hK b hb hk => hGF b hb ⟨K, List.mem_append.2 (.inr hK), hk⟩, d2⟩, fun H hH K hK b hb hk => ?_⟩, fun b => Iff.rfl⟩, hh.ex.2.2⟩ (List.pairwise_cons.2 ⟨fun H hH b hb => ?_, hd.2⟩)⟩
    · rw [own_cons, own_cons, own_cons, h3 b, hown b, or_assoc]
    · rcases List.mem_cons.1 hK with rfl | hK
      · exact hGF b hk ⟨H, List.mem_append.2 (.inl hH), hb⟩
      · exact d3 H hH K hK b hb hk
    · rcases (hown b).1 hb with hb | hb
      · exact d0 H (List.mem_cons_of_mem _ hH) b hb
      · exact hd.1 H hH b ((h3 b).2 hb)
theorem St.nobun {a : Act} {w : World} (h : St M0 F0 w0 n σ Ξ Γ a w) : St M0 F0 w0 n σ (bunX [] :: Ξ) Γ a w := by
  obtain ⟨hs, Fs, hh⟩ := h
  exact ⟨hs, _, hh.push _ ⟨[], trivial, .nil, fun b => ⟨fun h => h.elim, fun h => absurd h (own_nil b)⟩⟩⟩
end Go.Sx
end
section
set_option linter.unusedVariables false
set_option linter.unusedSimpArgs false
namespace Go.Sx
open Go Go.RowKit
/-! Patches whose rows are one's own: only their heads are told. -/
theorem seg_set {α : Type} {cur enc : List α} {p f : Nat} {v : α} (hf : f < enc.length) (hp : p + enc.length ≤ cur.length) (h : ∀ (i : Nat) (x : α), enc[i]? = some x → cur[p + i]? = some x) :
    cur.take (p + f) ++ [v] ++ cur.drop (p + f + 1) = cur.take p ++ enc.set f v ++ cur.drop (p + enc.length) := by
  apply List.ext_getElem?
  intro i
  simp only [List.append_assoc, List.getElem?_append, List.length_take, List.length_set, List.getElem?_take, List.getElem?_drop, List.length_singleton, List.length_append, List.getElem?_set]
  have hm1 : min (p + f) cur.length = p + f := by omega
  have hm2 : min p cur.length = p := by omega
  rw [hm1, hm2]
  by_cases h1 : i < p
  · rw [if_pos (by omega : i < p + f), if_pos (by omega : i < p + f), if_pos h1, if_pos h1]
  · rw [if_neg h1]
    by_cases h2 : i < p + f
    · rw [if_pos h2, if_pos h2, if_pos (by omega : i - p < enc.length), if_neg (by omega : ¬ f = i - p)]
      cases he : enc[i - p]? with
      | none => rw [List.getElem?_eq_none_iff] at he; omega
      | some x => have := h (i - p) x he; rw [show p + (i - p) = i by omega] at this; exact this
    · rw [if_neg h2]
      by_cases h3 : i = p + f
      · subst h3
        rw [if_pos (by omega : p + f - (p + f) < 1), if_pos (by omega : p + f - p < enc.length), if_pos (by omega : f = p + f - p), if_pos (by omega : f < enc.length)]
        simp
      · rw [if_neg (by omega : ¬ i - (p + f) < 1), show p + f + 1 + (i - (p + f) - 1) = i by omega]
        by_cases h4 : i - p < enc.length
        · rw [if_pos h4, if_neg (by omega : ¬ f = i - p)]
          cases he : enc[i - p]? with
          | none => rw [List.getElem?_eq_none_iff] at he; omega
          | some x => have := h (i - p) x he; rw [show p + (i - p) = i by omega] at this; exact this
        · rw [if_neg h4, show p + enc.length + (i - p - enc.length) = i by omega]
theorem row_setC {α : Type} [Rp α] {P : Program} {e : TypeId} {g c : Nat} {l : List α} {F M : Nat → Prop} {w : World} (h : (row e (some ⟨g, 0, none⟩) c l).p F M w) (hM : M g) {j f : Nat} {x z : α} {yx yz : Rp.Lay α} {v : Value} (hx : l[j]? = some x) (hu : ∀ y : Rp.Lay α, Rp.enc x y = Rp.enc x yx) (hz : Rp.enc z yz = (Rp.enc x yx).set f v) (hf : f < Rp.size α) (hv1 : v.oneCell' = true) (ha : ∀ p ∈ Rp.asn z yz, p.p M w) :
    ∃ w' : World, (storeCells ⟨g, 0 + j * Rp.size α + f, none⟩ [v]).run P w = .ok () w' ∧ Upd (fun b => b = g) w w' ∧ (row e (some ⟨g, 0, none⟩) c (l.set j z)).p F M w' := by
  obtain ⟨xs, ho, hFb, hr⟩ := h
  have hj : j < l.length := (List.getElem?_eq_some_iff.1 hx).1
  have hxl := hr.length
  rcases ho.2 with ⟨h0, _⟩ | ⟨g', cap, cur, hv, hbase, hb, hle, hmax, hcs, hxs⟩
  · cases h0
  · cases hv
    have hjs : j * Rp.size α + Rp.size α ≤ l.length * Rp.size α := by
      have : (j + 1) * Rp.size α ≤ l.length * Rp.size α := Nat.mul_le_mul_right _ hj
      rw [Nat.add_mul, Nat.one_mul] at this
      exact this
    have hcap : l.length * Rp.size α ≤ c * Rp.size α := Nat.mul_le_mul_right _ hle
    have hlen := Rp.len z yz
    have hcl : cur.toList.length = cur.size := by simp
    have hst := run_storeCells_at P g (0 + j * Rp.size α + f) e [v] 0 cur w hb (by simp only [List.length_singleton]; omega) (fun u hu => by rw [List.mem_singleton.1 hu]; exact hv1)
    simp only [Nat.zero_add, Nat.add_zero, List.length_singleton] at hst
    have hseg : cur.toList.take (j * Rp.size α + f) ++ [v] ++ cur.toList.drop (j * Rp.size α + f + 1) = cur.toList.take (j * Rp.size α) ++ Rp.enc z yz ++ cur.toList.drop (j * Rp.size α + Rp.size α) := by
      have hle := Rp.len x yx
      rw [hz]
      have := seg_set (cur := cur.toList) (enc := Rp.enc x yx) (p := j * Rp.size α) (f := f) (v := v) (by rw [hle]; exact hf) (by rw [hle, hcl]; omega) (fun i u hi => by
        obtain ⟨y, h1, _⟩ := hr.at j x hx
        have h3 := h1 i u (by rw [hu y]; exact hi)
        rw [← hxs] at h3
        have hlt := (List.getElem?_eq_some_iff.1 h3).1
        rw [List.length_take] at hlt
        rw [List.getElem?_take_of_lt (by omega)] at h3
        exact h3)
      rw [hle] at this
      exact this
    rw [hseg] at hst
    refine ⟨w.setRow g (cur.toList.take (j * Rp.size α) ++ Rp.enc z yz ++ cur.toList.drop (j * Rp.size α + Rp.size α)).toArray, ?_, ⟨rfl, rfl, rfl, by simp, fun b _ hn => setRow_other w g b _ (fun e' => hn e')⟩, ?_⟩
    · rw [Nat.zero_add]; exact hst
    · have hrow := hr.set j hj z yz ha
      refine ⟨_, ⟨?_, .inr ⟨g, c, (cur.toList.take (j * Rp.size α) ++ Rp.enc z yz ++ cur.toList.drop (j * Rp.size α + Rp.size α)).toArray, by rw [List.length_set], hbase, setRow_heap w g _ _ e _ hb, by rw [List.length_set]; exact hle, hmax, ?_, ?_⟩⟩, fun b => by rw [List.length_set]; exact hFb b, hrow.st (fun b hb' hn => setRow_other w g b _ (fun e' => hn (by rw [e']; exact hM))) (fun b _ hb' => hb') (by simp)⟩
      · exact hrow.length
      · simp [hlen]; omega
      · rw [List.length_set]
        have h1 := take_put (l := cur.toList) (vs := Rp.enc z yz) (a := j * Rp.size α) (N := l.length * Rp.size α) (by rw [hlen]; exact hjs) (by rw [hcl, hcs]; exact hcap)
        rw [hlen, hxs] at h1
        exact h1
variable {ro : Option Nat} {P : Program} {M0 F0 : Nat → Prop} {w0 : World} {n : Nm} {σ : List (Nat × Value)} {Ξ : List Xsn} {Γ : List Asn} {d : Nat} {ty : TypeId} {pos : String} {af : Array Edge}
variable {ops : Array Oper} {Q : Exit → Act → World → Prop} {S S' : Act → World → Prop}
theorem o_strowC {α : Type} [Rp α] {dst : Option Nat} {a0 b0 : Operand} {t e : TypeId} {g c : Nat} {l : List α} {i j f : Nat} {x z : α} {yx yz : Rp.Lay α} {v : Value} {Ξ' : List Xsn} (hdst : dst = none) (hsz : ∀ w, (sizeOf t).run P w = .ok 1 w) (hx : ev σ a0 = some (.pointer (some ⟨g, 0 + j * Rp.size α + f, none⟩))) (hy : ev σ b0 = some v)
    (hvc : v.cells = [v].toArray) (hv1 : v.oneCell' = true) (hi : At (row e (some ⟨g, 0, none⟩) c l) i Ξ) (hj : l[j]? = some x) (hu : ∀ y : Rp.Lay α, Rp.enc x y = Rp.enc x yx) (hz : Rp.enc z yz = (Rp.enc x yx).set f v) (hf : f < Rp.size α) (hs' : SetAt (row e (some ⟨g, 0, none⟩) c (l.set j z)) i Ξ Ξ') (hg : Sub (Rp.asn z yz) Γ) :
    OpR P ⟨dst, .store t a0 b0, ty, pos, af, none⟩ (St M0 F0 w0 n σ Ξ Γ) (St M0 F0 w0 n σ Ξ' Γ) := by
  subst hdst
  refine OpR.of_skip rfl fun a w ⟨hs, Fs, hh⟩ => ?_
  obtain ⟨rfl, _⟩ := hs'.eq
  obtain ⟨F, hF, hp⟩ := hh.ex.at hi.get
  have ho := row_own hp
  obtain ⟨w', h1, h2, h3⟩ := row_setC (P := P) hp (.inr ⟨F, List.mem_of_getElem? hF, (ho.1 g).2 rfl⟩) hj hu hz hf hv1 (fun p hp' => hh.ga p (hg.mem p hp'))
  refine ⟨w', ?_, hs, Fs, hh.set hF (w' := w') ⟨h2.os, h2.tape, h2.output, h2.size, fun b hb hn => h2.block b hb (fun e' => hn ((ho.1 b).2 e'))⟩ h3⟩
  simp only [execOp, hs.ev hx, hs.ev hy, Instr.storeAt, Instr.sureAddr, storeVar, Sem.run_bind, Sem.run_pure, Result.andThen_ok, hsz, hvc, List.size_toArray, ne_eq, not_true_eq_false, if_false]
  rw [Nat.zero_add] at h1
  simp [h1]
theorem isRowF {α : Type} [Rp α] {e : TypeId} {g c i j f : Nat} {l : List α} {x : α} {yx : Rp.Lay α} {r : List Value} {k : Nat} (hi : At (row e (some ⟨g, 0, none⟩) c l) i Ξ) (hj : l[j]? = some x) (hu : ∀ y : Rp.Lay α, Rp.enc x y = Rp.enc x yx) (hv : Cut f k (Rp.enc x yx) r) : ∀ a w, St M0 F0 w0 n σ Ξ Γ a w → Is g (0 + j * Rp.size α + f) r w := by
  rintro a w ⟨hs, Fs, hh⟩
  obtain ⟨F, hF, hp⟩ := hh.ex.at hi.get
  obtain ⟨y, h1, _⟩ := row_at hp hj
  rw [hu y] at h1
  obtain ⟨e', _⟩ := hv.eq
  intro q v hq
  have h2 := h1 (f + q) v (by
    rw [e'] at hq
    rw [List.getElem?_take] at hq
    split at hq
    · rw [List.getElem?_drop] at hq; exact hq
    · cases hq)
  rw [← Nat.add_assoc] at h2
  exact h2
theorem p_addw {T : World → Prop} {x y : Operand} {t t' : TypeId} {k b : Int} (hx : ev σ x = some (.int .i64 k)) (hy : ev σ y = some (.int .i64 b)) : Pu P n σ T ⟨some d, .binOp .add t x y t', ty, pos, af, none⟩ (.int .i64 (IntKind.i64.wrap (k + b))) :=
  fun a hs w _ => by simp [execOp, hs.ev hx, hs.ev hy, eqGuard_add, binOp_add, Op.intArith]
structure PrimH where
  kind : Int
  name : ByteArray
  to : ByteArray
  pos : Int
  old : Hdr
  new : Hdr
instance instRpPrimH : Rp PrimH where
  Lay := Unit
  size := 6
  enc p _ := [.int .i64 p.kind, .string p.name, .string p.to, .int .i64 p.pos, .slice p.old.A p.old.n p.old.c, .slice p.new.A p.new.n p.new.c]
  len _ _ := rfl
  one _ _ v hv := by
    simp only [List.mem_cons, List.mem_nil_iff, or_false] at hv
    rcases hv with rfl | rfl | rfl | rfl | rfl | rfl <;> rfl
  asn _ _ := []
def Prim.hd (p : Prim) (y : Rp.Lay Prim) : PrimH := ⟨p.kind, p.name, p.to, p.pos, ⟨y.1.1, p.old.length, y.1.2⟩, ⟨y.2.1, p.new.length, y.2.2⟩⟩
structure PatchH where
  id : Int
  note : ByteArray
  deps : Hdr
  l : Hdr
instance instRpPatchH : Rp PatchH where
  Lay := Unit
  size := 4
  enc p _ := [.int .i64 p.id, .string p.note, .slice p.deps.A p.deps.n p.deps.c, .slice p.l.A p.l.n p.l.c]
  len _ _ := rfl
  one _ _ v hv := by
    simp only [List.mem_cons, List.mem_nil_iff, or_false] at hv
    rcases hv with rfl | rfl | rfl | rfl <;> rfl
  asn _ _ := []
def newX (es : TypeId) (B : Nat) (h : Hdr) : Xsn := exX fun (l : {l : List ByteArray // l.length = h.n ∧ h.n ≤ 2000000 ∧ ∀ s ∈ l, s.size ≤ B}) => row es h.A h.c l.1
def primsX (ep es : TypeId) (B : Nat) (z : Hdr) : Xsn := exX fun (hs : {hs : List PrimH // hs.length = z.n ∧ z.n ≤ 2000000}) => bunX [row (α := PrimH) ep z.A z.c hs.1, bunX (hs.1.map fun h => newX es B h.new)]
def depsX (ei : TypeId) (z : Hdr) : Xsn := exX fun (l : {l : List Int // l.length = z.n ∧ z.n ≤ 2000000}) => row ei z.A z.c l.1
def patX (ei ep es : TypeId) (B : Nat) (z : PatchH) : Xsn := bunX [depsX ei z.deps, primsX ep es B z.l]
theorem St.addbun {xs : List Xsn} {x : Xsn} {a : Act} {w : World} (h : St M0 F0 w0 n σ (x :: bunX xs :: Ξ) Γ a w) : St M0 F0 w0 n σ (bunX (xs ++ [x]) :: Ξ) Γ a w :=
  St.unpick (xs := xs) (ys := []) (by rw [List.append_nil]; exact h)
theorem St.mkpat {ei ep es : TypeId} {B : Nat} {A A' : Option Addr} {c c' : Nat} {hs : List PrimH} {l : List Int} (id : Int) (note : ByteArray) (hH : hs.length ≤ 2000000) (hL : l.length ≤ 2000000) {a : Act} {w : World}
    (h : St M0 F0 w0 n σ (row ep A c hs :: bunX (hs.map fun h => newX es B h.new) :: row ei A' c' l :: Ξ) Γ a w) : St M0 F0 w0 n σ (patX ei ep es B ⟨id, note, ⟨A', l.length, c'⟩, ⟨A, hs.length, c⟩⟩ :: Ξ) Γ a w := by
  have h1 := St.mkbun (xs := [row ep A c hs, bunX (hs.map fun h => newX es B h.new)]) h
  have h2 := St.mkex (f := fun (hs' : {hs' : List PrimH // hs'.length = hs.length ∧ hs.length ≤ 2000000}) => bunX [row (α := PrimH) ep A c hs'.1, bunX (hs'.1.map fun h => newX es B h.new)]) ⟨hs, rfl, hH⟩ h1
  have h3 := St.front (i := 1) rfl h2
  have h4 := St.mkex (f := fun (l' : {l' : List Int // l'.length = l.length ∧ l.length ≤ 2000000}) => row ei A' c' l'.1) ⟨l, rfl, hL⟩ h3
  exact St.mkbun (xs := [_, _]) h4
def zeroH : PatchH := ⟨0, ⟨#[]⟩, ⟨none, 0, 0⟩, ⟨none, 0, 0⟩⟩
theorem St.zpat {ei ep es : TypeId} {B : Nat} {a : Act} {w : World} (h : St M0 F0 w0 n σ Ξ Γ a w) : St M0 F0 w0 n σ (patX ei ep es B zeroH :: Ξ) Γ a w := by
  have h1 := nilRow (α := Int) ei h
  have h2 := St.nobun h1
  have h3 := nilRow (α := PrimH) ep h2
  exact St.mkpat (hs := []) (l := []) 0 ⟨#[]⟩ (Nat.zero_le _) (Nat.zero_le _) h3
theorem St.unpat {ei ep es : TypeId} {B i : Nat} {z : PatchH} {Ξ' : List Xsn} {a : Act} {w : World} (hi : takeAt i Ξ = some (patX ei ep es B z, Ξ')) (h : St M0 F0 w0 n σ Ξ Γ a w) :
    ∃ (l : {l : List Int // l.length = z.deps.n ∧ z.deps.n ≤ 2000000}) (hs : {hs : List PrimH // hs.length = z.l.n ∧ z.l.n ≤ 2000000}), St M0 F0 w0 n σ (row ei z.deps.A z.deps.c l.1 :: row ep z.l.A z.l.c hs.1 :: bunX (hs.1.map fun h => newX es B h.new) :: Ξ') Γ a w := by
  have h1 := St.unbun hi h
  obtain ⟨l, h2⟩ := St.unex (i := 0) rfl h1
  obtain ⟨hs, h3⟩ := St.unex (i := 1) rfl h2
  have h4 := St.unbun (i := 0) rfl h3
  exact ⟨l, hs, St.front (i := 2) rfl h4⟩
theorem unpatC {c : Code} {ei ep es : TypeId} {B i : Nat} {z : PatchH} {Ξ' : List Xsn} (hi : takeAt i Ξ = some (patX ei ep es B z, Ξ'))
    (k : ∀ (l : {l : List Int // l.length = z.deps.n ∧ z.deps.n ≤ 2000000}) (hs : {hs : List PrimH // hs.length = z.l.n ∧ z.l.n ≤ 2000000}), TrC ro P Q (St M0 F0 w0 n σ (row ei z.deps.A z.deps.c l.1 :: row ep z.l.A z.l.c hs.1 :: bunX (hs.1.map fun h => newX es B h.new) :: Ξ') Γ) c) : TrC ro P Q (St M0 F0 w0 n σ Ξ Γ) c := fun a w h => by
  obtain ⟨l, hs, h1⟩ := St.unpat hi h
  exact k l hs a w h1
theorem unexC {c : Code} {ι : Type} {f : ι → Xsn} {i : Nat} {Ξ' : List Xsn} (hi : takeAt i Ξ = some (exX f, Ξ')) (k : ∀ z, TrC ro P Q (St M0 F0 w0 n σ (f z :: Ξ') Γ) c) : TrC ro P Q (St M0 F0 w0 n σ Ξ Γ) c := fun a w h => by
  obtain ⟨z, h1⟩ := St.unex hi h
  exact k z a w h1
theorem drop_get {α : Type} {l : List α} {k : Nat} {z : α} (h : l[k]? = some z) : l.drop k = z :: l.drop (k + 1) := by
  obtain ⟨hk, e⟩ := List.getElem?_eq_some_iff.1 h
  rw [List.drop_eq_getElem_cons hk, e]
theorem get_next {α β : Type} {l : List α} {k : Nat} {z : α} (h : l[k]? = some z) {f g : α → β} : (l.take (k + 1)).map f ++ (l.drop (k + 1)).map g = (l.take k).map f ++ f z :: (l.drop (k + 1)).map g := by
  obtain ⟨hk, e⟩ := List.getElem?_eq_some_iff.1 h
  rw [List.take_succ_eq_append_getElem hk, e]; simp
theorem set_next {α β : Type} {l : List α} {k : Nat} {z : α} (hk : k < l.length) {f g : α → β} : ((l.set k z).take (k + 1)).map f ++ ((l.set k z).drop (k + 1)).map g = (l.take k).map f ++ f z :: (l.drop (k + 1)).map g := by
  have h : (l.set k z)[k]? = some z := by rw [List.getElem?_set_self hk]
  rw [get_next h, List.take_set_of_le (Nat.le_refl k), List.drop_set_of_lt (Nat.lt_succ_self k)]
theorem map_all {α β : Type} {l : List α} {k : Nat} (h : l.length = k) {f g : α → β} : (l.take k).map f ++ (l.drop k).map g = l.map f := by
  rw [List.take_of_length_le (by omega), List.drop_of_length_le (by omega)]; simp
theorem own_set1 {l : List ByteArray} {k B : Nat} {v : ByteArray} (hb : ∀ s ∈ l, s.size ≤ B) (hv : v.size ≤ B) : ∀ s ∈ l.set k v, s.size ≤ B := fun s hs => by
  rcases List.mem_or_eq_of_mem_set hs with h | rfl
  · exact hb s h
  · exact hv
theorem own_set2 {l : List ByteArray} {k B : Nat} {v : ByteArray} (hd : ∀ s ∈ l.drop k, s.size ≤ B) : ∀ s ∈ (l.set k v).drop (k + 1), s.size ≤ B := fun s hs => by
  rw [List.drop_set_of_lt (Nat.lt_succ_self k)] at hs
  refine hd s ?_
  have e : l.drop k.succ = (l.drop k).tail := by rw [List.tail_drop]
  rw [e] at hs
  exact List.mem_of_mem_tail hs
end Go.Sx
end
section
set_option linter.unusedVariables false
set_option linter.unusedSimpArgs false
namespace Go.Proofs.YtmikcpaaomamiaaGreatDoor.X
open Go Go.RowKit Go.Proofs Go.Sx
open Tryz
attribute [local irreducible] slA isA box row TrL TrC TrN TrA Pu OpR
set_option maxHeartbeats 8000000
set_option maxRecDepth 100000 in
theorem c_primCloneO (p : Prim) (y : Rp.Lay Prim) (hp : p.fit) : Con Tryz.prog 35 [sv p y] [] (Rp.asn p y) (Rp.Lay Prim) (fun z => sv p z) (fun z => [row 9 z.1.1 z.1.2 p.old, row 9 z.2.1 z.2.2 p.new]) (fun _ => []) := by
 refine con func35 rfl ntmps35 rfl ?_
 intro M0 F0 w0
 refine k_ 2 ?_
 refine ls (o_box rfl rfl rfl) ?_
 refine le ?_; intro b1
 refine ls (o_alloc zeroValue39 rfl rfl) ?_
 refine le ?_; intro b2
 refine k_ 3 ?_
 refine cdB [2, 5, 7, 9] [(1, b1, 4, _), (4, b1, 5, _)] TryzX.mixed Ψ Ψ (TOk.t (isBoxS Θ (k := 1) Δ) (TOk.t (isBoxS Θ (k := 1) Δ) TOk.d)) ?_
 refine t_ 0 2 ?_
 refine t_ 3 2 ?_
 refine dfB 2 Ψ ?_
 refine doRB rfl (o_call (is := []) call52 (c_sCloneR p.old _ _ hp.o) rfl rfl Ω rfl) (TOk.xP 2 [] Ψ (TOk.t (isBoxE fun _ => isBoxS Θ (k := 1) Δ) TOk.d)) ?_
 refine eaB ?_; intro y1
 refine t_ 6 1 ?_
 refine dfB 5 Ψ ?_
 refine doRB rfl (o_call (is := []) call52 (c_sCloneR p.new _ _ hp.n) rfl rfl Ω rfl) (TOk.xP 2 [] Ψ (TOk.xP 5 [] Ψ TOk.d)) ?_
 refine eaB ?_; intro y2
 refine dfB 7 Ψ ?_
 refine doRB rfl (o_st rfl sizeOf37 rfl rfl rfl rfl rfl Θ Θ Θ) (TOk.xP 2 [] Ψ (TOk.xP 5 [] Ψ TOk.d)) ?_
 refine t_ 8 1 ?_
 refine dfB 9 Ψ ?_
 refine doRB rfl (o_st rfl sizeOf37 rfl rfl rfl rfl rfl Θ Θ Θ) (TOk.xP 2 [] Ψ (TOk.xP 5 [] Ψ TOk.d)) ?_
 refine dnB Ψ ?_
 refine k_ 3 ?_
 refine ls (o_ldw isAgg39 sizeOf39 rfl Θ (by rfl) rfl) ?_
 refine k_ 5 ?_
 refine rret (is := [1, 0]) (y1, y2) (Or.inl rfl) (Res.c rfl isAgg39 sizeOf39 Θ (by rfl) Res.d) (rfl) rfl Ω
set_option maxRecDepth 100000 in
theorem c_withO (p : Patch) (y : Rp.Lay Patch) (hp : p.fit) (l : List Prim) (A : Option Addr) (c : Nat) (hl : l.length ≤ 2000000) (hf : ∀ x ∈ l, x.fit) : Con Tryz.prog 20 [sv p y, .slice A l.length c] [] [slA y.1.1 p.deps, slA y.2.1 p.l, capA y.2.2 p.l.length, slA A l] {z : PatchH // z.l.n = l.length} (fun z => sv z.1 ()) (fun z => [patX 3 39 9 2000000 z.1]) (fun _ => []) := by
 refine con func20 rfl ntmps20 rfl ?_
 intro M0 F0 w0
 refine k_ 2 ?_
 refine ls (o_box rfl rfl rfl) ?_
 refine le ?_; intro b2
 refine ls (o_alloc zeroValue31 rfl rfl) ?_
 refine le ?_; intro b4
 refine k_ 3 ?_
 have hdl := hp.dl
 refine k_ 4 ?_
 refine ls (o_mk (0 : Int) () p.deps.length underlying22 inf3 rfl (by decide) (fun _ _ p hp => by cases hp) rfl rfl rfl rfl (by omega) (by omega) rfl) ?_
 refine le ?_; intro b11
 refine k_ 8 ?_
 refine ls (o_cpy underlying22 Ψ rfl rfl (by simp) Θ Θ Ω rfl) ?_
 rw [List.length_replicate]
 refine k_ 3 ?_
 refine cmono (fun a w h => nilRow (α := PrimH) 39 h) ?_
 refine cmono (fun a w h => St.nobun h) ?_
 refine k_ 17 ?_
 refine cl (ι := {q : List PrimH × Option Addr × Nat // q.1.length ≤ l.length}) (fun i => St M0 F0 w0 34 [(2, .pointer (some ⟨b2, 0, none⟩)), (4, .pointer (some ⟨b4, 0, none⟩)), (19, .slice A l.length c), (20, .int .i64 (l.length : Int)), (21, .int .i64 (i.1.1.length : Int))] [row 39 (i.1.2.1) (i.1.2.2) i.1.1, bunX (i.1.1.map fun h => newX 9 2000000 h.new), row 3 (some ⟨b11, 0, none⟩) p.deps.length p.deps, box b2 31 [.int .i64 p.id, .string p.note, .slice (some ⟨b11, 0, none⟩) p.deps.length p.deps.length, .slice i.1.2.1 i.1.1.length i.1.2.2], box b4 31 (Rp.enc Patch.zero ((none, 0), (none, 0)))] [slA A l]) (fun i => l.length - i.1.1.length) ⟨([], none, 0), Nat.zero_le _⟩ (wK [1, 0, 0, 1, 0]) ?_
 rintro ⟨⟨hs, A2, c2⟩, hk⟩
 refine cmono (S' := St M0 F0 w0 34 [(2, .pointer (some ⟨b2, 0, none⟩)), (4, .pointer (some ⟨b4, 0, none⟩)), (19, .slice A l.length c), (20, .int .i64 (l.length : Int)), (21, .int .i64 (hs.length : Int))] [row 39 (A2) (c2) hs, bunX (hs.map fun h => newX 9 2000000 h.new), row 3 (some ⟨b11, 0, none⟩) p.deps.length p.deps, box b2 31 [.int .i64 p.id, .string p.note, .slice (some ⟨b11, 0, none⟩) p.deps.length p.deps.length, .slice A2 hs.length c2], box b4 31 (Rp.enc Patch.zero ((none, 0), (none, 0)))] [slA A l]) Ħ ?_
 refine k_ 6 ?_
 refine cc rfl ?_ ?_
 ·
  intro h22
  dsimp only at hk
  try simp only [nrmZ] at h22
  have hk1 : hs.length < l.length := by omega
  refine k_ 5 ?_
  refine elC Θ hs.length (List.getElem?_eq_getElem (l := l) hk1) ?_; rintro zbp zop zyp hAp
  refine cr ?_
  refine ls (op (p_ia hs.length hAp hk1 rfl underlying29 sizeOf39 rfl rfl) rfl) ?_
  refine ls (o_ldj isAgg39 sizeOf39 rfl Θ 0 rfl Δ rfl) ?_
  refine ls (o_alloc zeroValue39 rfl rfl) ?_
  refine le ?_; intro b7
  refine k_ 3 ?_
  refine cdB [3, 4, 5, 7] [(1, b2, 3, _), (2, b7, 0, _)] TryzX.mixed Ψ Ψ (TOk.t (isBoxS Θ (k := 1) Δ) (TOk.t (isBoxS Θ (k := 6) Δ) TOk.d)) ?_
  refine t_ 0 3 ?_
  refine dfB 3 Ψ ?_
  refine doRB rfl (o_call (is := []) call35 (c_primCloneO l[hs.length] zyp (hf _ (List.getElem_mem hk1))) rfl rfl Ω rfl) (TOk.t (isBoxE fun _ => isBoxS Θ (k := 1) Δ) (TOk.xP 3 [] Ψ TOk.d)) ?_
  refine eaB ?_; rintro ⟨⟨Ao, co⟩, ⟨An, cn⟩⟩
  refine amonoB (fun a w h => Go.Sx.freeze (i := 0) rfl h) ?_
  refine dfB 4 Ψ ?_
  refine doRB rfl (o_bsl [l[hs.length].hd ((Ao, co), (An, cn))] underlying29 sizeOf39 zeroValue39 rfl (Enum.t Enum.d) (RV.t () rfl Sub.d RV.d) rfl (by decide) (by decide) rfl) (TOk.t (isBoxE fun _ => isBoxS Θ (k := 1) Δ) (TOk.xP 3 [] Ψ TOk.d)) ?_
  refine eaB ?_; intro b29
  refine amonoB (fun a w h => Go.Sx.freeze (i := 0) rfl h) ?_
  refine dfB 5 Ψ ?_
  refine doRB rfl (o_app (is := [2]) underlying29 inf39 rfl (by decide) (by decide) rfl rfl (by simp only [List.length_cons, List.length_nil]; omega) (fun h => by cases h) rfl Ω rfl) (TOk.xP 5 [] Ψ (TOk.xP 3 [] Ψ TOk.d)) ?_
  refine eaB ?_; rintro ⟨A3, c3⟩
  refine t_ 6 1 ?_
  refine dfB 7 Ψ ?_
  refine doRB rfl (o_st rfl sizeOf29 rfl rfl rfl rfl rfl Θ Θ Θ) (TOk.xP 5 [] Ψ (TOk.xP 3 [] Ψ TOk.d)) ?_
  refine dnB Ψ ?_
  refine k_ 6 ?_
  refine nnext ⟨(hs ++ [l[hs.length].hd ((Ao, co), (An, cn))], A3, c3), by dsimp only; rw [List.length_append]; exact hk1⟩ (by dsimp only; rw [List.length_append]; simp only [List.length_cons, List.length_nil]; omega) ?_
  intro a w h
  have h := St.front (i := 3) rfl h
  have h := St.front (i := 2) rfl h
  have h := St.mkex (f := fun (l' : {l' : List ByteArray // l'.length = l[hs.length].new.length ∧ l[hs.length].new.length ≤ 2000000 ∧ ∀ s ∈ l', s.size ≤ 2000000}) => row 9 An cn l'.1) ⟨l[hs.length].new, rfl, (hf _ (List.getElem_mem hk1)).n, (hf _ (List.getElem_mem hk1)).ns⟩ h
  have h := St.addbun h
  dsimp only
  rw [List.length_append] at h
  rw [List.map_append, List.length_append]
  exact wL [1, 0, 1, 1, 1] h
 ·
  intro h22
  dsimp only at hk
  try simp only [nrmZ] at h22
  have hkl : hs.length = l.length := by omega
  refine k_ 6 ?_
  refine cmono (fun a w h => St.mkpat (B := 2000000) (es := 9) (l := p.deps) p.id p.note (by omega) hdl h) ?_
  refine cr ?_
  refine ls (o_ldw isAgg31 sizeOf31 rfl Θ (by rfl) rfl) ?_
  refine k_ 5 ?_
  refine rret (is := [0]) ⟨⟨p.id, p.note, ⟨some ⟨b11, 0, none⟩, p.deps.length, p.deps.length⟩, ⟨A2, hs.length, c2⟩⟩, hkl⟩ (Or.inl rfl) (Res.c rfl isAgg31 sizeOf31 Θ (by rfl) Res.d) (rfl) rfl Ω
set_option maxRecDepth 100000 in
theorem c_nCloneO (p : Patch) (y : Rp.Lay Patch) (hp : p.fit) : Con Tryz.prog 7 [sv p y] [] [slA y.1.1 p.deps, slA y.2.1 p.l, capA y.2.2 p.l.length] PatchH (fun z => sv z ()) (fun z => [patX 3 39 9 2000000 z]) (fun _ => []) := by
 refine con func7 rfl ntmps7 rfl ?_
 intro M0 F0 w0
 refine k_ 2 ?_
 refine ls (o_box rfl rfl rfl) ?_
 refine le ?_; intro b1
 refine ls (o_alloc zeroValue31 rfl rfl) ?_
 refine le ?_; intro b2
 refine k_ 4 ?_
 refine ls (o_ldw isAgg31 sizeOf31 rfl Θ (by rfl) rfl) ?_
 refine k_ 2 ?_
 refine lC [] call20 (c_withO p y hp p.l y.2.1 y.2.2 hp.ll hp.lf) ?_; rintro ⟨z6, e6⟩
 refine k_ 5 ?_
 refine rret (is := [0]) z6 (Or.inl rfl) (Res.c rfl isAgg31 sizeOf31 Θ (by rfl) Res.d) (rfl) rfl Ω
set_option maxRecDepth 100000 in
theorem c_nSwapO (p q : Patch) (yp yq : Rp.Lay Patch) (hp : p.fit) (hq : q.fit) : Con Tryz.prog 9 [sv p yp, sv q yq] [] [slA yp.1.1 p.deps, slA yp.2.1 p.l, capA yp.2.2 p.l.length, slA yq.1.1 q.deps, slA yq.2.1 q.l, capA yq.2.2 q.l.length] {x : (PatchH × PatchH) × Bool // x.2 = false → x.1.1.l.n = 0} (fun x => .tuple #[sv x.1.1.1 (), sv x.1.1.2 (), .bool x.1.2]) (fun x => [patX 3 39 9 2000000 x.1.1.1, patX 3 39 9 2000000 x.1.1.2]) (fun _ => []) := by
 refine con func9 rfl ntmps9 rfl ?_
 intro M0 F0 w0
 refine k_ 2 ?_
 refine ls (o_box rfl rfl rfl) ?_
 refine le ?_; intro b2
 refine ls (o_box rfl rfl rfl) ?_
 refine le ?_; intro b3
 refine ls (o_alloc zeroValue31 rfl rfl) ?_
 refine le ?_; intro b4
 refine ls (o_alloc zeroValue31 rfl rfl) ?_
 refine le ?_; intro b5
 refine k_ 6 ?_
 refine ls (o_ldw isAgg31 sizeOf31 rfl Θ (by rfl) rfl) ?_
 refine lC [] call19 (c_nRight p yp hp) ?_; intro x10
 refine k_ 2 ?_
 refine orX 4 12 16 rfl (sL [0, 1, 2, 3, 4, 5, 6]) ?_ ?_
 ·
  intro h12
  refine k_ 4 ?_
  refine ln (nmid (wk0 Φ Ω))
 apply exI
 ·
  intro h12
  refine lwant rfl rfl rfl rfl (o_ldw isAgg31 sizeOf31 rfl Θ (by rfl) rfl) ?_
  refine lwant rfl rfl rfl rfl (o_call (is := []) call19 (c_nRight q yq hq) rfl rfl Ω rfl) ?_
  refine le ?_; intro x14
  refine k_ 2 ?_
  refine ln (nmid (wk0 Φ Ω))
 ·
  refine k_ 1 ?_
  refine orX 6 17 23 rfl (sL [0, 1, 2, 3, 4, 5, 6]) ?_ ?_
  ·
   intro h17
   refine k_ 6 ?_
   refine ln (nmid (wk0 Φ Ω))
  apply exI
  ·
   intro h17
   refine k_ 6 ?_
   refine ln (nmid (wk0 Φ Ω))
  ·
   refine k_ 1 ?_
   refine orX 6 24 30 rfl (sL [0, 1, 2, 3, 4, 5, 6]) ?_ ?_
   ·
    intro h24
    refine k_ 6 ?_
    refine ln (nmid (wk0 Φ Ω))
   apply exI
   ·
    intro h24
    refine k_ 4 ?_
    refine lwant rfl rfl rfl rfl (o_call (is := []) call22 (c_ContainsI q.deps _ _ hq.dl p.id) rfl rfl Ω rfl) ?_
    refine le ?_; intro x29
    refine k_ 1 ?_
    refine ln (nmid (wk0 Φ Ω))
   ·
    refine k_ 1 ?_
    refine orX 6 31 37 rfl (sL [0, 1, 2, 3, 4, 5, 6]) ?_ ?_
    ·
     intro h31
     refine k_ 6 ?_
     refine ln (nmid (wk0 Φ Ω))
    apply exI
    ·
     intro h31
     refine k_ 4 ?_
     refine lwant rfl rfl rfl rfl (o_call (is := []) call22 (c_ContainsI p.deps _ _ hp.dl q.id) rfl rfl Ω rfl) ?_
     refine le ?_; intro x36
     refine k_ 1 ?_
     refine ln (nmid (wk0 Φ Ω))
    ·
     refine k_ 2 ?_
     refine cc rfl ?_ ?_
     ·
      intro h37
      try simp only [nrmZ] at h37
      refine cs ?_
      refine cmono (fun a w h => St.zpat (ei := 3) (ep := 39) (es := 9) (B := 2000000) h) ?_
      refine cmono (fun a w h => St.zpat (ei := 3) (ep := 39) (es := 9) (B := 2000000) h) ?_
      refine k_ 10 ?_
      refine rret (is := [0, 0]) ⟨((zeroH, zeroH), false), fun _ => rfl⟩ (Or.inl rfl) (Res.c rfl isAgg31 sizeOf31 Θ (by rfl) (Res.c rfl isAgg31 sizeOf31 Θ (by rfl) (Res.t rfl Res.d))) (rfl) rfl Ω
     ·
      intro h37
      try simp only [nrmZ] at h37
      refine k_ 8 ?_
      refine lC [] call23 (c_seqSwap p.l q.l _ _ _ _ hp.ll hq.ll hp.lf hq.lf) ?_; rintro ⟨⟨⟨f, s, b3⟩, ⟨ya, yb⟩⟩, hr⟩
      dsimp only at hr
      refine k_ 16 ?_
      refine cc rfl ?_ ?_
      ·
       intro h50
       obtain rfl : false = b3 := by cases b3 <;> first | rfl | (simp at h50)
       refine cs ?_
       refine cmono (fun a w h => St.zpat (ei := 3) (ep := 39) (es := 9) (B := 2000000) h) ?_
       refine cmono (fun a w h => St.zpat (ei := 3) (ep := 39) (es := 9) (B := 2000000) h) ?_
       refine k_ 10 ?_
       refine rret (is := [0, 0]) ⟨((zeroH, zeroH), false), fun _ => rfl⟩ (Or.inl rfl) (Res.c rfl isAgg31 sizeOf31 Θ (by rfl) (Res.c rfl isAgg31 sizeOf31 Θ (by rfl) (Res.t rfl Res.d))) (rfl) rfl Ω
      ·
       intro h50
       obtain rfl : true = b3 := by cases b3 <;> first | rfl | (simp at h50)
       have hok := swT_ok hr hp.lf hq.lf
       have hfl := hok.1; have hsl := hok.2.1; have hpl := hp.ll; have hql := hq.ll
       refine k_ 3 ?_
       refine cdB [2, 5, 6, 7] [(0, b3, 0, _), (3, b2, 0, _)] TryzX.mixed Ψ Ψ (TOk.t (isBoxS Θ (k := 4) Δ) (TOk.t (isBoxS Θ (k := 4) Δ) TOk.d)) ?_
       refine t_ 0 2 ?_
       refine t_ 3 2 ?_
       refine dfB 2 Ψ ?_
       refine doRB rfl (o_call (is := []) call20 (c_withO q yq hq f ya.1 ya.2 (by omega) hok.2.2.1) rfl rfl Ω rfl) (TOk.xP 2 [] Ψ (TOk.t (isBoxE fun _ => isBoxS Θ (k := 4) Δ) TOk.d)) ?_
       refine eaB ?_; rintro ⟨z55, e55⟩
       refine dfB 5 Ψ ?_
       refine doRB rfl (o_call (is := []) call20 (c_withO p yp hp s yb.1 yb.2 (by omega) hok.2.2.2) rfl rfl Ω rfl) (TOk.xP 2 [] Ψ (TOk.xP 5 [] Ψ TOk.d)) ?_
       refine eaB ?_; rintro ⟨z58, e58⟩
       refine dfB 6 Ψ ?_
       refine doRB rfl (o_st rfl sizeOf31 rfl rfl rfl rfl rfl Θ Θ Θ) (TOk.xP 2 [] Ψ (TOk.xP 5 [] Ψ TOk.d)) ?_
       refine dfB 7 Ψ ?_
       refine doRB rfl (o_st rfl sizeOf31 rfl rfl rfl rfl rfl Θ Θ Θ) (TOk.xP 2 [] Ψ (TOk.xP 5 [] Ψ TOk.d)) ?_
       refine t_ 8 1 ?_
       refine dnB Ψ ?_
       refine k_ 3 ?_
       refine rret (is := [1, 0]) ⟨((z55, z58), true), fun h => by cases h⟩ (Or.inl rfl) (Res.c rfl isAgg31 sizeOf31 Θ (by rfl) (Res.c rfl isAgg31 sizeOf31 Θ (by rfl) (Res.t rfl Res.d))) (rfl) rfl Ω
set_option maxRecDepth 100000 in
theorem c_NamedOwn (p q : Patch) (yp yq : Rp.Lay Patch) (hp : p.fit) (hq : q.fit) (hM : pmany [p, q] ≤ 1000000000000) : Con Tryz.prog 3 [sv p yp, sv q yq] [] [slA yp.1.1 p.deps, slA yp.2.1 p.l, capA yp.2.2 p.l.length, slA yq.1.1 q.deps, slA yq.2.1 q.l, capA yq.2.2 q.l.length] Unit (fun _ => .bool (true)) (fun _ => []) (fun _ => []) := by
 refine con func3 rfl ntmps3 rfl ?_
 intro M0 F0 w0
 refine k_ 2 ?_
 refine ls (o_box rfl rfl rfl) ?_
 refine le ?_; intro b2
 refine ls (o_box rfl rfl rfl) ?_
 refine le ?_; intro b3
 refine k_ 6 ?_
 refine ls (o_ldw isAgg25 sizeOf25 rfl Θ (by rfl) rfl) ?_
 refine ls (o_ldw isAgg25 sizeOf25 rfl Θ (by rfl) rfl) ?_
 refine ls (o_bsl [p, q] underlying42 sizeOf25 zeroValue25 rfl (Enum.t (Enum.t Enum.d)) (RV.t yp rfl Ω (RV.t yq rfl Ω RV.d)) rfl (by decide) (by decide) rfl) ?_
 refine le ?_; intro b18
 refine lmono (fun a w h => Go.Sx.freeze (i := 0) rfl h) ?_
 refine lC [] call4 (c_few7 [p, q] _ _ (by simp) (by intro x hx; simp at hx; rcases hx with rfl | rfl; exact hp; exact hq) hM) ?_; intro x19
 refine k_ 2 ?_
 refine orX 4 21 25 rfl (sL [0, 1, 2, 3, 4]) ?_ ?_
 ·
  intro h21
  refine k_ 4 ?_
  refine ln (nmid (wk0 Φ Ω))
 apply exI
 ·
  intro h21
  refine lwant rfl rfl rfl rfl (o_ldw isAgg25 sizeOf25 rfl Θ (by rfl) rfl) ?_
  refine lwant rfl rfl rfl rfl (o_call (is := []) call5 (c_rRight p yp hp) rfl rfl Ω rfl) ?_
  refine le ?_; intro x23
  refine k_ 2 ?_
  refine ln (nmid (wk0 Φ Ω))
 ·
  refine k_ 1 ?_
  refine orX 4 26 30 rfl (sL [0, 1, 2, 3, 4]) ?_ ?_
  ·
   intro h26
   refine k_ 4 ?_
   refine ln (nmid (wk0 Φ Ω))
  apply exI
  ·
   intro h26
   refine lwant rfl rfl rfl rfl (o_ldw isAgg25 sizeOf25 rfl Θ (by rfl) rfl) ?_
   refine lwant rfl rfl rfl rfl (o_call (is := []) call5 (c_rRight q yq hq) rfl rfl Ω rfl) ?_
   refine le ?_; intro x28
   refine k_ 2 ?_
   refine ln (nmid (wk0 Φ Ω))
  ·
   refine k_ 2 ?_
   refine cc rfl ?_ ?_
   ·
    intro h30
    try simp only [nrmZ] at h30
    refine k_ 2 ?_
    refine lC [] call6 (c_alive7) ?_; intro x31
    refine k_ 5 ?_
    exact rR [] ()
   ·
    intro h30
    try simp only [nrmZ] at h30
    refine k_ 3 ?_
    refine cutC (S' := fun a w => ∃ (b5 : Nat) (b6 : Nat) (zx : Rp.Lay Patch) (zy : Rp.Lay Patch), St M0 F0 w0 131 [(2, .pointer (some ⟨b2, 0, none⟩)), (3, .pointer (some ⟨b3, 0, none⟩)), (5, .pointer (some ⟨b5, 0, none⟩)), (6, .pointer (some ⟨b6, 0, none⟩))] [box b5 31 (Rp.enc p zx), box b6 31 (Rp.enc q zy), box b3 25 (Rp.enc q yq), box b2 25 (Rp.enc p yp)] [slA zx.1.1 p.deps, slA zx.2.1 p.l, capA zx.2.2 p.l.length, slA zy.1.1 q.deps, slA zy.2.1 q.l, capA zy.2.2 q.l.length, slA yp.1.1 p.deps, slA yp.2.1 p.l, capA yp.2.2 p.l.length, slA yq.1.1 q.deps, slA yq.2.1 q.l, capA yq.2.2 q.l.length] a w) ?_ ?_
    ·
     refine cdB [1, 2, 4, 5, 6, 7, 8, 9] [(0, b2, 0, _), (3, b3, 0, _)] TryzX.mixed Ψ Ψ (TOk.t (isBoxS Θ (k := 4) Δ) (TOk.t (isBoxS Θ (k := 4) Δ) TOk.d)) ?_
     refine t_ 0 1 ?_
     refine t_ 3 1 ?_
     refine dallB (is := [1, 6, 7]) Ψ rfl ?_
     intro i hi; simp only [List.mem_cons, List.mem_nil_iff, or_false] at hi; rcases hi with rfl | rfl | rfl
     ·
      refine doRB rfl (o_call (is := []) call8 (c_New7 p yp hp) rfl rfl Ω rfl) (TOk.xP 1 [] Ψ (TOk.t (isBoxE fun _ => isBoxS Θ (k := 4) Δ) TOk.d)) ?_
      refine eaB ?_; intro y33
      refine dallB (is := [2, 6, 7]) Ψ rfl ?_
      intro i hi; simp only [List.mem_cons, List.mem_nil_iff, or_false] at hi; rcases hi with rfl | rfl | rfl
      ·
       refine doRB rfl (o_call (is := []) call7 (c_nClone p y33 hp) rfl rfl Ω rfl) (TOk.xP 1 [] Ψ (TOk.t (isBoxE fun _ => isBoxS Θ (k := 4) Δ) TOk.d)) ?_
       refine eaB ?_; intro zx
       refine dallB (is := [4, 6, 7]) Ψ rfl ?_
       intro i hi; simp only [List.mem_cons, List.mem_nil_iff, or_false] at hi; rcases hi with rfl | rfl | rfl
       ·
        refine doRB rfl (o_call (is := []) call8 (c_New7 q yq hq) rfl rfl Ω rfl) (TOk.xP 1 [] Ψ (TOk.xP 4 [] Ψ TOk.d)) ?_
        refine eaB ?_; intro y36
        refine dallB (is := [5, 6, 7]) Ψ rfl ?_
        intro i hi; simp only [List.mem_cons, List.mem_nil_iff, or_false] at hi; rcases hi with rfl | rfl | rfl
        ·
         refine doRB rfl (o_call (is := []) call7 (c_nClone q y36 hq) rfl rfl Ω rfl) (TOk.xP 1 [] Ψ (TOk.xP 4 [] Ψ TOk.d)) ?_
         refine eaB ?_; intro zy
         refine dallB (is := [6, 7]) Ψ rfl ?_
         intro i hi; simp only [List.mem_cons, List.mem_nil_iff, or_false] at hi; rcases hi with rfl | rfl
         ·
          refine doRB rfl (o_alloc zeroValue31 rfl rfl) (TOk.xP 1 [] Ψ (TOk.xP 4 [] Ψ TOk.d)) ?_
          refine eaB ?_; intro b5
          refine dfB 7 Ψ ?_
          refine doRB rfl (o_alloc zeroValue31 rfl rfl) (TOk.xP 1 [] Ψ (TOk.xP 4 [] Ψ TOk.d)) ?_
          refine eaB ?_; intro b6
          refine dfB 8 Ψ ?_
          refine doRB rfl (o_st rfl sizeOf31 rfl rfl rfl rfl rfl Θ Θ Θ) (TOk.xP 1 [] Ψ (TOk.xP 4 [] Ψ TOk.d)) ?_
          refine dfB 9 Ψ ?_
          refine doRB rfl (o_st rfl sizeOf31 rfl rfl rfl rfl rfl Θ Θ Θ) (TOk.xP 1 [] Ψ (TOk.xP 4 [] Ψ TOk.d)) ?_
          refine dnB Ψ (nmid (fun a w h => by first | exact ⟨b5, b6, zx, zy, wL [1, 0, 0, 0] h⟩ | exact ⟨b5, b6, zx, zy, wL [0, 0, 0, 0] h⟩))
         ·
          refine doRB rfl (o_alloc zeroValue31 rfl rfl) (TOk.xP 1 [] Ψ (TOk.xP 4 [] Ψ TOk.d)) ?_
          refine eaB ?_; intro b6
          refine dfB 6 Ψ ?_
          refine doRB rfl (o_alloc zeroValue31 rfl rfl) (TOk.xP 1 [] Ψ (TOk.xP 4 [] Ψ TOk.d)) ?_
          refine eaB ?_; intro b5
          refine dfB 8 Ψ ?_
          refine doRB rfl (o_st rfl sizeOf31 rfl rfl rfl rfl rfl Θ Θ Θ) (TOk.xP 1 [] Ψ (TOk.xP 4 [] Ψ TOk.d)) ?_
          refine dfB 9 Ψ ?_
          refine doRB rfl (o_st rfl sizeOf31 rfl rfl rfl rfl rfl Θ Θ Θ) (TOk.xP 1 [] Ψ (TOk.xP 4 [] Ψ TOk.d)) ?_
          refine dnB Ψ (nmid (fun a w h => by first | exact ⟨b5, b6, zx, zy, wL [1, 0, 0, 0] h⟩ | exact ⟨b5, b6, zx, zy, wL [0, 0, 0, 0] h⟩))
        ·
         refine doRB rfl (o_alloc zeroValue31 rfl rfl) (TOk.xP 1 [] Ψ (TOk.xP 4 [] Ψ TOk.d)) ?_
         refine eaB ?_; intro b5
         refine dallB (is := [5, 7]) Ψ rfl ?_
         intro i hi; simp only [List.mem_cons, List.mem_nil_iff, or_false] at hi; rcases hi with rfl | rfl
         ·
          refine doRB rfl (o_call (is := []) call7 (c_nClone q y36 hq) rfl rfl Ω rfl) (TOk.xP 1 [] Ψ (TOk.xP 4 [] Ψ TOk.d)) ?_
          refine eaB ?_; intro zy
          refine dfB 7 Ψ ?_
          refine doRB rfl (o_alloc zeroValue31 rfl rfl) (TOk.xP 1 [] Ψ (TOk.xP 4 [] Ψ TOk.d)) ?_
          refine eaB ?_; intro b6
          refine dfB 8 Ψ ?_
          refine doRB rfl (o_st rfl sizeOf31 rfl rfl rfl rfl rfl Θ Θ Θ) (TOk.xP 1 [] Ψ (TOk.xP 4 [] Ψ TOk.d)) ?_
          refine dfB 9 Ψ ?_
          refine doRB rfl (o_st rfl sizeOf31 rfl rfl rfl rfl rfl Θ Θ Θ) (TOk.xP 1 [] Ψ (TOk.xP 4 [] Ψ TOk.d)) ?_
          refine dnB Ψ (nmid (fun a w h => by first | exact ⟨b5, b6, zx, zy, wL [1, 0, 0, 0] h⟩ | exact ⟨b5, b6, zx, zy, wL [0, 0, 0, 0] h⟩))
         ·
          refine doRB rfl (o_alloc zeroValue31 rfl rfl) (TOk.xP 1 [] Ψ (TOk.xP 4 [] Ψ TOk.d)) ?_
          refine eaB ?_; intro b6
          refine dfB 5 Ψ ?_
          refine doRB rfl (o_call (is := []) call7 (c_nClone q y36 hq) rfl rfl Ω rfl) (TOk.xP 1 [] Ψ (TOk.xP 4 [] Ψ TOk.d)) ?_
          refine eaB ?_; intro zy
          refine dfB 8 Ψ ?_
          refine doRB rfl (o_st rfl sizeOf31 rfl rfl rfl rfl rfl Θ Θ Θ) (TOk.xP 1 [] Ψ (TOk.xP 4 [] Ψ TOk.d)) ?_
          refine dfB 9 Ψ ?_
          refine doRB rfl (o_st rfl sizeOf31 rfl rfl rfl rfl rfl Θ Θ Θ) (TOk.xP 1 [] Ψ (TOk.xP 4 [] Ψ TOk.d)) ?_
          refine dnB Ψ (nmid (fun a w h => by first | exact ⟨b5, b6, zx, zy, wL [1, 0, 0, 0] h⟩ | exact ⟨b5, b6, zx, zy, wL [0, 0, 0, 0] h⟩))
        ·
         refine doRB rfl (o_alloc zeroValue31 rfl rfl) (TOk.xP 1 [] Ψ (TOk.xP 4 [] Ψ TOk.d)) ?_
         refine eaB ?_; intro b6
         refine dallB (is := [5, 6]) Ψ rfl ?_
         intro i hi; simp only [List.mem_cons, List.mem_nil_iff, or_false] at hi; rcases hi with rfl | rfl
         ·
          refine doRB rfl (o_call (is := []) call7 (c_nClone q y36 hq) rfl rfl Ω rfl) (TOk.xP 1 [] Ψ (TOk.xP 4 [] Ψ TOk.d)) ?_
          refine eaB ?_; intro zy
          refine dfB 6 Ψ ?_
          refine doRB rfl (o_alloc zeroValue31 rfl rfl) (TOk.xP 1 [] Ψ (TOk.xP 4 [] Ψ TOk.d)) ?_
          refine eaB ?_; intro b5
          refine dfB 8 Ψ ?_
          refine doRB rfl (o_st rfl sizeOf31 rfl rfl rfl rfl rfl Θ Θ Θ) (TOk.xP 1 [] Ψ (TOk.xP 4 [] Ψ TOk.d)) ?_
          refine dfB 9 Ψ ?_
          refine doRB rfl (o_st rfl sizeOf31 rfl rfl rfl rfl rfl Θ Θ Θ) (TOk.xP 1 [] Ψ (TOk.xP 4 [] Ψ TOk.d)) ?_
          refine dnB Ψ (nmid (fun a w h => by first | exact ⟨b5, b6, zx, zy, wL [1, 0, 0, 0] h⟩ | exact ⟨b5, b6, zx, zy, wL [0, 0, 0, 0] h⟩))
         ·
          refine doRB rfl (o_alloc zeroValue31 rfl rfl) (TOk.xP 1 [] Ψ (TOk.xP 4 [] Ψ TOk.d)) ?_
          refine eaB ?_; intro b5
          refine dfB 5 Ψ ?_
          refine doRB rfl (o_call (is := []) call7 (c_nClone q y36 hq) rfl rfl Ω rfl) (TOk.xP 1 [] Ψ (TOk.xP 4 [] Ψ TOk.d)) ?_
          refine eaB ?_; intro zy
          refine dfB 8 Ψ ?_
          refine doRB rfl (o_st rfl sizeOf31 rfl rfl rfl rfl rfl Θ Θ Θ) (TOk.xP 1 [] Ψ (TOk.xP 4 [] Ψ TOk.d)) ?_
          refine dfB 9 Ψ ?_
          refine doRB rfl (o_st rfl sizeOf31 rfl rfl rfl rfl rfl Θ Θ Θ) (TOk.xP 1 [] Ψ (TOk.xP 4 [] Ψ TOk.d)) ?_
          refine dnB Ψ (nmid (fun a w h => by first | exact ⟨b5, b6, zx, zy, wL [1, 0, 0, 0] h⟩ | exact ⟨b5, b6, zx, zy, wL [0, 0, 0, 0] h⟩))
       ·
        refine doRB rfl (o_alloc zeroValue31 rfl rfl) (TOk.xP 1 [] Ψ (TOk.t (isBoxE fun _ => isBoxS Θ (k := 4) Δ) TOk.d)) ?_
        refine eaB ?_; intro b5
        refine dallB (is := [4, 7]) Ψ rfl ?_
        intro i hi; simp only [List.mem_cons, List.mem_nil_iff, or_false] at hi; rcases hi with rfl | rfl
        ·
         refine doRB rfl (o_call (is := []) call8 (c_New7 q yq hq) rfl rfl Ω rfl) (TOk.xP 1 [] Ψ (TOk.xP 4 [] Ψ TOk.d)) ?_
         refine eaB ?_; intro y36
         refine dallB (is := [5, 7]) Ψ rfl ?_
         intro i hi; simp only [List.mem_cons, List.mem_nil_iff, or_false] at hi; rcases hi with rfl | rfl
         ·
          refine doRB rfl (o_call (is := []) call7 (c_nClone q y36 hq) rfl rfl Ω rfl) (TOk.xP 1 [] Ψ (TOk.xP 4 [] Ψ TOk.d)) ?_
          refine eaB ?_; intro zy
          refine dfB 7 Ψ ?_
          refine doRB rfl (o_alloc zeroValue31 rfl rfl) (TOk.xP 1 [] Ψ (TOk.xP 4 [] Ψ TOk.d)) ?_
          refine eaB ?_; intro b6
          refine dfB 8 Ψ ?_
          refine doRB rfl (o_st rfl sizeOf31 rfl rfl rfl rfl rfl Θ Θ Θ) (TOk.xP 1 [] Ψ (TOk.xP 4 [] Ψ TOk.d)) ?_
          refine dfB 9 Ψ ?_
          refine doRB rfl (o_st rfl sizeOf31 rfl rfl rfl rfl rfl Θ Θ Θ) (TOk.xP 1 [] Ψ (TOk.xP 4 [] Ψ TOk.d)) ?_
          refine dnB Ψ (nmid (fun a w h => by first | exact ⟨b5, b6, zx, zy, wL [1, 0, 0, 0] h⟩ | exact ⟨b5, b6, zx, zy, wL [0, 0, 0, 0] h⟩))
         ·
          refine doRB rfl (o_alloc zeroValue31 rfl rfl) (TOk.xP 1 [] Ψ (TOk.xP 4 [] Ψ TOk.d)) ?_
          refine eaB ?_; intro b6
          refine dfB 5 Ψ ?_
          refine doRB rfl (o_call (is := []) call7 (c_nClone q y36 hq) rfl rfl Ω rfl) (TOk.xP 1 [] Ψ (TOk.xP 4 [] Ψ TOk.d)) ?_
          refine eaB ?_; intro zy
          refine dfB 8 Ψ ?_
          refine doRB rfl (o_st rfl sizeOf31 rfl rfl rfl rfl rfl Θ Θ Θ) (TOk.xP 1 [] Ψ (TOk.xP 4 [] Ψ TOk.d)) ?_
          refine dfB 9 Ψ ?_
          refine doRB rfl (o_st rfl sizeOf31 rfl rfl rfl rfl rfl Θ Θ Θ) (TOk.xP 1 [] Ψ (TOk.xP 4 [] Ψ TOk.d)) ?_
          refine dnB Ψ (nmid (fun a w h => by first | exact ⟨b5, b6, zx, zy, wL [1, 0, 0, 0] h⟩ | exact ⟨b5, b6, zx, zy, wL [0, 0, 0, 0] h⟩))
        ·
         refine doRB rfl (o_alloc zeroValue31 rfl rfl) (TOk.xP 1 [] Ψ (TOk.t (isBoxE fun _ => isBoxS Θ (k := 4) Δ) TOk.d)) ?_
         refine eaB ?_; intro b6
         refine dfB 4 Ψ ?_
         refine doRB rfl (o_call (is := []) call8 (c_New7 q yq hq) rfl rfl Ω rfl) (TOk.xP 1 [] Ψ (TOk.xP 4 [] Ψ TOk.d)) ?_
         refine eaB ?_; intro y36
         refine dfB 5 Ψ ?_
         refine doRB rfl (o_call (is := []) call7 (c_nClone q y36 hq) rfl rfl Ω rfl) (TOk.xP 1 [] Ψ (TOk.xP 4 [] Ψ TOk.d)) ?_
         refine eaB ?_; intro zy
         refine dfB 8 Ψ ?_
         refine doRB rfl (o_st rfl sizeOf31 rfl rfl rfl rfl rfl Θ Θ Θ) (TOk.xP 1 [] Ψ (TOk.xP 4 [] Ψ TOk.d)) ?_
         refine dfB 9 Ψ ?_
         refine doRB rfl (o_st rfl sizeOf31 rfl rfl rfl rfl rfl Θ Θ Θ) (TOk.xP 1 [] Ψ (TOk.xP 4 [] Ψ TOk.d)) ?_
         refine dnB Ψ (nmid (fun a w h => by first | exact ⟨b5, b6, zx, zy, wL [1, 0, 0, 0] h⟩ | exact ⟨b5, b6, zx, zy, wL [0, 0, 0, 0] h⟩))
       ·
        refine doRB rfl (o_alloc zeroValue31 rfl rfl) (TOk.xP 1 [] Ψ (TOk.t (isBoxE fun _ => isBoxS Θ (k := 4) Δ) TOk.d)) ?_
        refine eaB ?_; intro b6
        refine dallB (is := [4, 6]) Ψ rfl ?_
        intro i hi; simp only [List.mem_cons, List.mem_nil_iff, or_false] at hi; rcases hi with rfl | rfl
        ·
         refine doRB rfl (o_call (is := []) call8 (c_New7 q yq hq) rfl rfl Ω rfl) (TOk.xP 1 [] Ψ (TOk.xP 4 [] Ψ TOk.d)) ?_
         refine eaB ?_; intro y36
         refine dallB (is := [5, 6]) Ψ rfl ?_
         intro i hi; simp only [List.mem_cons, List.mem_nil_iff, or_false] at hi; rcases hi with rfl | rfl
         ·
          refine doRB rfl (o_call (is := []) call7 (c_nClone q y36 hq) rfl rfl Ω rfl) (TOk.xP 1 [] Ψ (TOk.xP 4 [] Ψ TOk.d)) ?_
          refine eaB ?_; intro zy
          refine dfB 6 Ψ ?_
          refine doRB rfl (o_alloc zeroValue31 rfl rfl) (TOk.xP 1 [] Ψ (TOk.xP 4 [] Ψ TOk.d)) ?_
          refine eaB ?_; intro b5
          refine dfB 8 Ψ ?_
          refine doRB rfl (o_st rfl sizeOf31 rfl rfl rfl rfl rfl Θ Θ Θ) (TOk.xP 1 [] Ψ (TOk.xP 4 [] Ψ TOk.d)) ?_
          refine dfB 9 Ψ ?_
          refine doRB rfl (o_st rfl sizeOf31 rfl rfl rfl rfl rfl Θ Θ Θ) (TOk.xP 1 [] Ψ (TOk.xP 4 [] Ψ TOk.d)) ?_
          refine dnB Ψ (nmid (fun a w h => by first | exact ⟨b5, b6, zx, zy, wL [1, 0, 0, 0] h⟩ | exact ⟨b5, b6, zx, zy, wL [0, 0, 0, 0] h⟩))
         ·
          refine doRB rfl (o_alloc zeroValue31 rfl rfl) (TOk.xP 1 [] Ψ (TOk.xP 4 [] Ψ TOk.d)) ?_
          refine eaB ?_; intro b5
          refine dfB 5 Ψ ?_
          refine doRB rfl (o_call (is := []) call7 (c_nClone q y36 hq) rfl rfl Ω rfl) (TOk.xP 1 [] Ψ (TOk.xP 4 [] Ψ TOk.d)) ?_
          refine eaB ?_; intro zy
          refine dfB 8 Ψ ?_
          refine doRB rfl (o_st rfl sizeOf31 rfl rfl rfl rfl rfl Θ Θ Θ) (TOk.xP 1 [] Ψ (TOk.xP 4 [] Ψ TOk.d)) ?_
          refine dfB 9 Ψ ?_
          refine doRB rfl (o_st rfl sizeOf31 rfl rfl rfl rfl rfl Θ Θ Θ) (TOk.xP 1 [] Ψ (TOk.xP 4 [] Ψ TOk.d)) ?_
          refine dnB Ψ (nmid (fun a w h => by first | exact ⟨b5, b6, zx, zy, wL [1, 0, 0, 0] h⟩ | exact ⟨b5, b6, zx, zy, wL [0, 0, 0, 0] h⟩))
        ·
         refine doRB rfl (o_alloc zeroValue31 rfl rfl) (TOk.xP 1 [] Ψ (TOk.t (isBoxE fun _ => isBoxS Θ (k := 4) Δ) TOk.d)) ?_
         refine eaB ?_; intro b5
         refine dfB 4 Ψ ?_
         refine doRB rfl (o_call (is := []) call8 (c_New7 q yq hq) rfl rfl Ω rfl) (TOk.xP 1 [] Ψ (TOk.xP 4 [] Ψ TOk.d)) ?_
         refine eaB ?_; intro y36
         refine dfB 5 Ψ ?_
         refine doRB rfl (o_call (is := []) call7 (c_nClone q y36 hq) rfl rfl Ω rfl) (TOk.xP 1 [] Ψ (TOk.xP 4 [] Ψ TOk.d)) ?_
         refine eaB ?_; intro zy
         refine dfB 8 Ψ ?_
         refine doRB rfl (o_st rfl sizeOf31 rfl rfl rfl rfl rfl Θ Θ Θ) (TOk.xP 1 [] Ψ (TOk.xP 4 [] Ψ TOk.d)) ?_
         refine dfB 9 Ψ ?_
         refine doRB rfl (o_st rfl sizeOf31 rfl rfl rfl rfl rfl Θ Θ Θ) (TOk.xP 1 [] Ψ (TOk.xP 4 [] Ψ TOk.d)) ?_
         refine dnB Ψ (nmid (fun a w h => by first | exact ⟨b5, b6, zx, zy, wL [1, 0, 0, 0] h⟩ | exact ⟨b5, b6, zx, zy, wL [0, 0, 0, 0] h⟩))
      ·
       refine doRB rfl (o_alloc zeroValue31 rfl rfl) (TOk.xP 1 [] Ψ (TOk.t (isBoxE fun _ => isBoxS Θ (k := 4) Δ) TOk.d)) ?_
       refine eaB ?_; intro b5
       refine dallB (is := [2, 7]) Ψ rfl ?_
       intro i hi; simp only [List.mem_cons, List.mem_nil_iff, or_false] at hi; rcases hi with rfl | rfl
       ·
        refine doRB rfl (o_call (is := []) call7 (c_nClone p y33 hp) rfl rfl Ω rfl) (TOk.xP 1 [] Ψ (TOk.t (isBoxE fun _ => isBoxS Θ (k := 4) Δ) TOk.d)) ?_
        refine eaB ?_; intro zx
        refine dallB (is := [4, 7]) Ψ rfl ?_
        intro i hi; simp only [List.mem_cons, List.mem_nil_iff, or_false] at hi; rcases hi with rfl | rfl
        ·
         refine doRB rfl (o_call (is := []) call8 (c_New7 q yq hq) rfl rfl Ω rfl) (TOk.xP 1 [] Ψ (TOk.xP 4 [] Ψ TOk.d)) ?_
         refine eaB ?_; intro y36
         refine dallB (is := [5, 7]) Ψ rfl ?_
         intro i hi; simp only [List.mem_cons, List.mem_nil_iff, or_false] at hi; rcases hi with rfl | rfl
         ·
          refine doRB rfl (o_call (is := []) call7 (c_nClone q y36 hq) rfl rfl Ω rfl) (TOk.xP 1 [] Ψ (TOk.xP 4 [] Ψ TOk.d)) ?_
          refine eaB ?_; intro zy
          refine dfB 7 Ψ ?_
          refine doRB rfl (o_alloc zeroValue31 rfl rfl) (TOk.xP 1 [] Ψ (TOk.xP 4 [] Ψ TOk.d)) ?_
          refine eaB ?_; intro b6
          refine dfB 8 Ψ ?_
          refine doRB rfl (o_st rfl sizeOf31 rfl rfl rfl rfl rfl Θ Θ Θ) (TOk.xP 1 [] Ψ (TOk.xP 4 [] Ψ TOk.d)) ?_
          refine dfB 9 Ψ ?_
          refine doRB rfl (o_st rfl sizeOf31 rfl rfl rfl rfl rfl Θ Θ Θ) (TOk.xP 1 [] Ψ (TOk.xP 4 [] Ψ TOk.d)) ?_
          refine dnB Ψ (nmid (fun a w h => by first | exact ⟨b5, b6, zx, zy, wL [1, 0, 0, 0] h⟩ | exact ⟨b5, b6, zx, zy, wL [0, 0, 0, 0] h⟩))
         ·
          refine doRB rfl (o_alloc zeroValue31 rfl rfl) (TOk.xP 1 [] Ψ (TOk.xP 4 [] Ψ TOk.d)) ?_
          refine eaB ?_; intro b6
          refine dfB 5 Ψ ?_
          refine doRB rfl (o_call (is := []) call7 (c_nClone q y36 hq) rfl rfl Ω rfl) (TOk.xP 1 [] Ψ (TOk.xP 4 [] Ψ TOk.d)) ?_
          refine eaB ?_; intro zy
          refine dfB 8 Ψ ?_
          refine doRB rfl (o_st rfl sizeOf31 rfl rfl rfl rfl rfl Θ Θ Θ) (TOk.xP 1 [] Ψ (TOk.xP 4 [] Ψ TOk.d)) ?_
          refine dfB 9 Ψ ?_
          refine doRB rfl (o_st rfl sizeOf31 rfl rfl rfl rfl rfl Θ Θ Θ) (TOk.xP 1 [] Ψ (TOk.xP 4 [] Ψ TOk.d)) ?_
          refine dnB Ψ (nmid (fun a w h => by first | exact ⟨b5, b6, zx, zy, wL [1, 0, 0, 0] h⟩ | exact ⟨b5, b6, zx, zy, wL [0, 0, 0, 0] h⟩))
        ·
         refine doRB rfl (o_alloc zeroValue31 rfl rfl) (TOk.xP 1 [] Ψ (TOk.t (isBoxE fun _ => isBoxS Θ (k := 4) Δ) TOk.d)) ?_
         refine eaB ?_; intro b6
         refine dfB 4 Ψ ?_
         refine doRB rfl (o_call (is := []) call8 (c_New7 q yq hq) rfl rfl Ω rfl) (TOk.xP 1 [] Ψ (TOk.xP 4 [] Ψ TOk.d)) ?_
         refine eaB ?_; intro y36
         refine dfB 5 Ψ ?_
         refine doRB rfl (o_call (is := []) call7 (c_nClone q y36 hq) rfl rfl Ω rfl) (TOk.xP 1 [] Ψ (TOk.xP 4 [] Ψ TOk.d)) ?_
         refine eaB ?_; intro zy
         refine dfB 8 Ψ ?_
         refine doRB rfl (o_st rfl sizeOf31 rfl rfl rfl rfl rfl Θ Θ Θ) (TOk.xP 1 [] Ψ (TOk.xP 4 [] Ψ TOk.d)) ?_
         refine dfB 9 Ψ ?_
         refine doRB rfl (o_st rfl sizeOf31 rfl rfl rfl rfl rfl Θ Θ Θ) (TOk.xP 1 [] Ψ (TOk.xP 4 [] Ψ TOk.d)) ?_
         refine dnB Ψ (nmid (fun a w h => by first | exact ⟨b5, b6, zx, zy, wL [1, 0, 0, 0] h⟩ | exact ⟨b5, b6, zx, zy, wL [0, 0, 0, 0] h⟩))
       ·
        refine doRB rfl (o_alloc zeroValue31 rfl rfl) (TOk.xP 1 [] Ψ (TOk.t (isBoxE fun _ => isBoxS Θ (k := 4) Δ) TOk.d)) ?_
        refine eaB ?_; intro b6
        refine dfB 2 Ψ ?_
        refine doRB rfl (o_call (is := []) call7 (c_nClone p y33 hp) rfl rfl Ω rfl) (TOk.xP 1 [] Ψ (TOk.t (isBoxE fun _ => isBoxS Θ (k := 4) Δ) TOk.d)) ?_
        refine eaB ?_; intro zx
        refine dfB 4 Ψ ?_
        refine doRB rfl (o_call (is := []) call8 (c_New7 q yq hq) rfl rfl Ω rfl) (TOk.xP 1 [] Ψ (TOk.xP 4 [] Ψ TOk.d)) ?_
        refine eaB ?_; intro y36
        refine dfB 5 Ψ ?_
        refine doRB rfl (o_call (is := []) call7 (c_nClone q y36 hq) rfl rfl Ω rfl) (TOk.xP 1 [] Ψ (TOk.xP 4 [] Ψ TOk.d)) ?_
        refine eaB ?_; intro zy
        refine dfB 8 Ψ ?_
        refine doRB rfl (o_st rfl sizeOf31 rfl rfl rfl rfl rfl Θ Θ Θ) (TOk.xP 1 [] Ψ (TOk.xP 4 [] Ψ TOk.d)) ?_
        refine dfB 9 Ψ ?_
        refine doRB rfl (o_st rfl sizeOf31 rfl rfl rfl rfl rfl Θ Θ Θ) (TOk.xP 1 [] Ψ (TOk.xP 4 [] Ψ TOk.d)) ?_
        refine dnB Ψ (nmid (fun a w h => by first | exact ⟨b5, b6, zx, zy, wL [1, 0, 0, 0] h⟩ | exact ⟨b5, b6, zx, zy, wL [0, 0, 0, 0] h⟩))
      ·
       refine doRB rfl (o_alloc zeroValue31 rfl rfl) (TOk.xP 1 [] Ψ (TOk.t (isBoxE fun _ => isBoxS Θ (k := 4) Δ) TOk.d)) ?_
       refine eaB ?_; intro b6
       refine dallB (is := [2, 6]) Ψ rfl ?_
       intro i hi; simp only [List.mem_cons, List.mem_nil_iff, or_false] at hi; rcases hi with rfl | rfl
       ·
        refine doRB rfl (o_call (is := []) call7 (c_nClone p y33 hp) rfl rfl Ω rfl) (TOk.xP 1 [] Ψ (TOk.t (isBoxE fun _ => isBoxS Θ (k := 4) Δ) TOk.d)) ?_
        refine eaB ?_; intro zx
        refine dallB (is := [4, 6]) Ψ rfl ?_
        intro i hi; simp only [List.mem_cons, List.mem_nil_iff, or_false] at hi; rcases hi with rfl | rfl
        ·
         refine doRB rfl (o_call (is := []) call8 (c_New7 q yq hq) rfl rfl Ω rfl) (TOk.xP 1 [] Ψ (TOk.xP 4 [] Ψ TOk.d)) ?_
         refine eaB ?_; intro y36
         refine dallB (is := [5, 6]) Ψ rfl ?_
         intro i hi; simp only [List.mem_cons, List.mem_nil_iff, or_false] at hi; rcases hi with rfl | rfl
         ·
          refine doRB rfl (o_call (is := []) call7 (c_nClone q y36 hq) rfl rfl Ω rfl) (TOk.xP 1 [] Ψ (TOk.xP 4 [] Ψ TOk.d)) ?_
          refine eaB ?_; intro zy
          refine dfB 6 Ψ ?_
          refine doRB rfl (o_alloc zeroValue31 rfl rfl) (TOk.xP 1 [] Ψ (TOk.xP 4 [] Ψ TOk.d)) ?_
          refine eaB ?_; intro b5
          refine dfB 8 Ψ ?_
          refine doRB rfl (o_st rfl sizeOf31 rfl rfl rfl rfl rfl Θ Θ Θ) (TOk.xP 1 [] Ψ (TOk.xP 4 [] Ψ TOk.d)) ?_
          refine dfB 9 Ψ ?_
          refine doRB rfl (o_st rfl sizeOf31 rfl rfl rfl rfl rfl Θ Θ Θ) (TOk.xP 1 [] Ψ (TOk.xP 4 [] Ψ TOk.d)) ?_
          refine dnB Ψ (nmid (fun a w h => by first | exact ⟨b5, b6, zx, zy, wL [1, 0, 0, 0] h⟩ | exact ⟨b5, b6, zx, zy, wL [0, 0, 0, 0] h⟩))
         ·
          refine doRB rfl (o_alloc zeroValue31 rfl rfl) (TOk.xP 1 [] Ψ (TOk.xP 4 [] Ψ TOk.d)) ?_
          refine eaB ?_; intro b5
          refine dfB 5 Ψ ?_
          refine doRB rfl (o_call (is := []) call7 (c_nClone q y36 hq) rfl rfl Ω rfl) (TOk.xP 1 [] Ψ (TOk.xP 4 [] Ψ TOk.d)) ?_
          refine eaB ?_; intro zy
          refine dfB 8 Ψ ?_
          refine doRB rfl (o_st rfl sizeOf31 rfl rfl rfl rfl rfl Θ Θ Θ) (TOk.xP 1 [] Ψ (TOk.xP 4 [] Ψ TOk.d)) ?_
          refine dfB 9 Ψ ?_
          refine doRB rfl (o_st rfl sizeOf31 rfl rfl rfl rfl rfl Θ Θ Θ) (TOk.xP 1 [] Ψ (TOk.xP 4 [] Ψ TOk.d)) ?_
          refine dnB Ψ (nmid (fun a w h => by first | exact ⟨b5, b6, zx, zy, wL [1, 0, 0, 0] h⟩ | exact ⟨b5, b6, zx, zy, wL [0, 0, 0, 0] h⟩))
        ·
         refine doRB rfl (o_alloc zeroValue31 rfl rfl) (TOk.xP 1 [] Ψ (TOk.t (isBoxE fun _ => isBoxS Θ (k := 4) Δ) TOk.d)) ?_
         refine eaB ?_; intro b5
         refine dfB 4 Ψ ?_
         refine doRB rfl (o_call (is := []) call8 (c_New7 q yq hq) rfl rfl Ω rfl) (TOk.xP 1 [] Ψ (TOk.xP 4 [] Ψ TOk.d)) ?_
         refine eaB ?_; intro y36
         refine dfB 5 Ψ ?_
         refine doRB rfl (o_call (is := []) call7 (c_nClone q y36 hq) rfl rfl Ω rfl) (TOk.xP 1 [] Ψ (TOk.xP 4 [] Ψ TOk.d)) ?_
         refine eaB ?_; intro zy
         refine dfB 8 Ψ ?_
         refine doRB rfl (o_st rfl sizeOf31 rfl rfl rfl rfl rfl Θ Θ Θ) (TOk.xP 1 [] Ψ (TOk.xP 4 [] Ψ TOk.d)) ?_
         refine dfB 9 Ψ ?_
         refine doRB rfl (o_st rfl sizeOf31 rfl rfl rfl rfl rfl Θ Θ Θ) (TOk.xP 1 [] Ψ (TOk.xP 4 [] Ψ TOk.d)) ?_
         refine dnB Ψ (nmid (fun a w h => by first | exact ⟨b5, b6, zx, zy, wL [1, 0, 0, 0] h⟩ | exact ⟨b5, b6, zx, zy, wL [0, 0, 0, 0] h⟩))
       ·
        refine doRB rfl (o_alloc zeroValue31 rfl rfl) (TOk.xP 1 [] Ψ (TOk.t (isBoxE fun _ => isBoxS Θ (k := 4) Δ) TOk.d)) ?_
        refine eaB ?_; intro b5
        refine dfB 2 Ψ ?_
        refine doRB rfl (o_call (is := []) call7 (c_nClone p y33 hp) rfl rfl Ω rfl) (TOk.xP 1 [] Ψ (TOk.t (isBoxE fun _ => isBoxS Θ (k := 4) Δ) TOk.d)) ?_
        refine eaB ?_; intro zx
        refine dfB 4 Ψ ?_
        refine doRB rfl (o_call (is := []) call8 (c_New7 q yq hq) rfl rfl Ω rfl) (TOk.xP 1 [] Ψ (TOk.xP 4 [] Ψ TOk.d)) ?_
        refine eaB ?_; intro y36
        refine dfB 5 Ψ ?_
        refine doRB rfl (o_call (is := []) call7 (c_nClone q y36 hq) rfl rfl Ω rfl) (TOk.xP 1 [] Ψ (TOk.xP 4 [] Ψ TOk.d)) ?_
        refine eaB ?_; intro zy
        refine dfB 8 Ψ ?_
        refine doRB rfl (o_st rfl sizeOf31 rfl rfl rfl rfl rfl Θ Θ Θ) (TOk.xP 1 [] Ψ (TOk.xP 4 [] Ψ TOk.d)) ?_
        refine dfB 9 Ψ ?_
        refine doRB rfl (o_st rfl sizeOf31 rfl rfl rfl rfl rfl Θ Θ Θ) (TOk.xP 1 [] Ψ (TOk.xP 4 [] Ψ TOk.d)) ?_
        refine dnB Ψ (nmid (fun a w h => by first | exact ⟨b5, b6, zx, zy, wL [1, 0, 0, 0] h⟩ | exact ⟨b5, b6, zx, zy, wL [0, 0, 0, 0] h⟩))
     ·
      refine doRB rfl (o_alloc zeroValue31 rfl rfl) (TOk.t (isBoxE fun _ => isBoxS Θ (k := 4) Δ) (TOk.t (isBoxE fun _ => isBoxS Θ (k := 4) Δ) TOk.d)) ?_
      refine eaB ?_; intro b5
      refine dallB (is := [1, 7]) Ψ rfl ?_
      intro i hi; simp only [List.mem_cons, List.mem_nil_iff, or_false] at hi; rcases hi with rfl | rfl
      ·
       refine doRB rfl (o_call (is := []) call8 (c_New7 p yp hp) rfl rfl Ω rfl) (TOk.xP 1 [] Ψ (TOk.t (isBoxE fun _ => isBoxS Θ (k := 4) Δ) TOk.d)) ?_
       refine eaB ?_; intro y33
       refine dallB (is := [2, 7]) Ψ rfl ?_
       intro i hi; simp only [List.mem_cons, List.mem_nil_iff, or_false] at hi; rcases hi with rfl | rfl
       ·
        refine doRB rfl (o_call (is := []) call7 (c_nClone p y33 hp) rfl rfl Ω rfl) (TOk.xP 1 [] Ψ (TOk.t (isBoxE fun _ => isBoxS Θ (k := 4) Δ) TOk.d)) ?_
        refine eaB ?_; intro zx
        refine dallB (is := [4, 7]) Ψ rfl ?_
        intro i hi; simp only [List.mem_cons, List.mem_nil_iff, or_false] at hi; rcases hi with rfl | rfl
        ·
         refine doRB rfl (o_call (is := []) call8 (c_New7 q yq hq) rfl rfl Ω rfl) (TOk.xP 1 [] Ψ (TOk.xP 4 [] Ψ TOk.d)) ?_
         refine eaB ?_; intro y36
         refine dallB (is := [5, 7]) Ψ rfl ?_
         intro i hi; simp only [List.mem_cons, List.mem_nil_iff, or_false] at hi; rcases hi with rfl | rfl
         ·
          refine doRB rfl (o_call (is := []) call7 (c_nClone q y36 hq) rfl rfl Ω rfl) (TOk.xP 1 [] Ψ (TOk.xP 4 [] Ψ TOk.d)) ?_
          refine eaB ?_; intro zy
          refine dfB 7 Ψ ?_
          refine doRB rfl (o_alloc zeroValue31 rfl rfl) (TOk.xP 1 [] Ψ (TOk.xP 4 [] Ψ TOk.d)) ?_
          refine eaB ?_; intro b6
          refine dfB 8 Ψ ?_
          refine doRB rfl (o_st rfl sizeOf31 rfl rfl rfl rfl rfl Θ Θ Θ) (TOk.xP 1 [] Ψ (TOk.xP 4 [] Ψ TOk.d)) ?_
          refine dfB 9 Ψ ?_
          refine doRB rfl (o_st rfl sizeOf31 rfl rfl rfl rfl rfl Θ Θ Θ) (TOk.xP 1 [] Ψ (TOk.xP 4 [] Ψ TOk.d)) ?_
          refine dnB Ψ (nmid (fun a w h => by first | exact ⟨b5, b6, zx, zy, wL [1, 0, 0, 0] h⟩ | exact ⟨b5, b6, zx, zy, wL [0, 0, 0, 0] h⟩))
         ·
          refine doRB rfl (o_alloc zeroValue31 rfl rfl) (TOk.xP 1 [] Ψ (TOk.xP 4 [] Ψ TOk.d)) ?_
          refine eaB ?_; intro b6
          refine dfB 5 Ψ ?_
          refine doRB rfl (o_call (is := []) call7 (c_nClone q y36 hq) rfl rfl Ω rfl) (TOk.xP 1 [] Ψ (TOk.xP 4 [] Ψ TOk.d)) ?_
          refine eaB ?_; intro zy
          refine dfB 8 Ψ ?_
          refine doRB rfl (o_st rfl sizeOf31 rfl rfl rfl rfl rfl Θ Θ Θ) (TOk.xP 1 [] Ψ (TOk.xP 4 [] Ψ TOk.d)) ?_
          refine dfB 9 Ψ ?_
          refine doRB rfl (o_st rfl sizeOf31 rfl rfl rfl rfl rfl Θ Θ Θ) (TOk.xP 1 [] Ψ (TOk.xP 4 [] Ψ TOk.d)) ?_
          refine dnB Ψ (nmid (fun a w h => by first | exact ⟨b5, b6, zx, zy, wL [1, 0, 0, 0] h⟩ | exact ⟨b5, b6, zx, zy, wL [0, 0, 0, 0] h⟩))
        ·
         refine doRB rfl (o_alloc zeroValue31 rfl rfl) (TOk.xP 1 [] Ψ (TOk.t (isBoxE fun _ => isBoxS Θ (k := 4) Δ) TOk.d)) ?_
         refine eaB ?_; intro b6
         refine dfB 4 Ψ ?_
         refine doRB rfl (o_call (is := []) call8 (c_New7 q yq hq) rfl rfl Ω rfl) (TOk.xP 1 [] Ψ (TOk.xP 4 [] Ψ TOk.d)) ?_
         refine eaB ?_; intro y36
         refine dfB 5 Ψ ?_
         refine doRB rfl (o_call (is := []) call7 (c_nClone q y36 hq) rfl rfl Ω rfl) (TOk.xP 1 [] Ψ (TOk.xP 4 [] Ψ TOk.d)) ?_
         refine eaB ?_; intro zy
         refine dfB 8 Ψ ?_
         refine doRB rfl (o_st rfl sizeOf31 rfl rfl rfl rfl rfl Θ Θ Θ) (TOk.xP 1 [] Ψ (TOk.xP 4 [] Ψ TOk.d)) ?_
         refine dfB 9 Ψ ?_
         refine doRB rfl (o_st rfl sizeOf31 rfl rfl rfl rfl rfl Θ Θ Θ) (TOk.xP 1 [] Ψ (TOk.xP 4 [] Ψ TOk.d)) ?_
         refine dnB Ψ (nmid (fun a w h => by first | exact ⟨b5, b6, zx, zy, wL [1, 0, 0, 0] h⟩ | exact ⟨b5, b6, zx, zy, wL [0, 0, 0, 0] h⟩))
       ·
        refine doRB rfl (o_alloc zeroValue31 rfl rfl) (TOk.xP 1 [] Ψ (TOk.t (isBoxE fun _ => isBoxS Θ (k := 4) Δ) TOk.d)) ?_
        refine eaB ?_; intro b6
        refine dfB 2 Ψ ?_
        refine doRB rfl (o_call (is := []) call7 (c_nClone p y33 hp) rfl rfl Ω rfl) (TOk.xP 1 [] Ψ (TOk.t (isBoxE fun _ => isBoxS Θ (k := 4) Δ) TOk.d)) ?_
        refine eaB ?_; intro zx
        refine dfB 4 Ψ ?_
        refine doRB rfl (o_call (is := []) call8 (c_New7 q yq hq) rfl rfl Ω rfl) (TOk.xP 1 [] Ψ (TOk.xP 4 [] Ψ TOk.d)) ?_
        refine eaB ?_; intro y36
        refine dfB 5 Ψ ?_
        refine doRB rfl (o_call (is := []) call7 (c_nClone q y36 hq) rfl rfl Ω rfl) (TOk.xP 1 [] Ψ (TOk.xP 4 [] Ψ TOk.d)) ?_
        refine eaB ?_; intro zy
        refine dfB 8 Ψ ?_
        refine doRB rfl (o_st rfl sizeOf31 rfl rfl rfl rfl rfl Θ Θ Θ) (TOk.xP 1 [] Ψ (TOk.xP 4 [] Ψ TOk.d)) ?_
        refine dfB 9 Ψ ?_
        refine doRB rfl (o_st rfl sizeOf31 rfl rfl rfl rfl rfl Θ Θ Θ) (TOk.xP 1 [] Ψ (TOk.xP 4 [] Ψ TOk.d)) ?_
        refine dnB Ψ (nmid (fun a w h => by first | exact ⟨b5, b6, zx, zy, wL [1, 0, 0, 0] h⟩ | exact ⟨b5, b6, zx, zy, wL [0, 0, 0, 0] h⟩))
      ·
       refine doRB rfl (o_alloc zeroValue31 rfl rfl) (TOk.t (isBoxE fun _ => isBoxS Θ (k := 4) Δ) (TOk.t (isBoxE fun _ => isBoxS Θ (k := 4) Δ) TOk.d)) ?_
       refine eaB ?_; intro b6
       refine dfB 1 Ψ ?_
       refine doRB rfl (o_call (is := []) call8 (c_New7 p yp hp) rfl rfl Ω rfl) (TOk.xP 1 [] Ψ (TOk.t (isBoxE fun _ => isBoxS Θ (k := 4) Δ) TOk.d)) ?_
       refine eaB ?_; intro y33
       refine dfB 2 Ψ ?_
       refine doRB rfl (o_call (is := []) call7 (c_nClone p y33 hp) rfl rfl Ω rfl) (TOk.xP 1 [] Ψ (TOk.t (isBoxE fun _ => isBoxS Θ (k := 4) Δ) TOk.d)) ?_
       refine eaB ?_; intro zx
       refine dfB 4 Ψ ?_
       refine doRB rfl (o_call (is := []) call8 (c_New7 q yq hq) rfl rfl Ω rfl) (TOk.xP 1 [] Ψ (TOk.xP 4 [] Ψ TOk.d)) ?_
       refine eaB ?_; intro y36
       refine dfB 5 Ψ ?_
       refine doRB rfl (o_call (is := []) call7 (c_nClone q y36 hq) rfl rfl Ω rfl) (TOk.xP 1 [] Ψ (TOk.xP 4 [] Ψ TOk.d)) ?_
       refine eaB ?_; intro zy
       refine dfB 8 Ψ ?_
       refine doRB rfl (o_st rfl sizeOf31 rfl rfl rfl rfl rfl Θ Θ Θ) (TOk.xP 1 [] Ψ (TOk.xP 4 [] Ψ TOk.d)) ?_
       refine dfB 9 Ψ ?_
       refine doRB rfl (o_st rfl sizeOf31 rfl rfl rfl rfl rfl Θ Θ Θ) (TOk.xP 1 [] Ψ (TOk.xP 4 [] Ψ TOk.d)) ?_
       refine dnB Ψ (nmid (fun a w h => by first | exact ⟨b5, b6, zx, zy, wL [1, 0, 0, 0] h⟩ | exact ⟨b5, b6, zx, zy, wL [0, 0, 0, 0] h⟩))
     ·
      refine doRB rfl (o_alloc zeroValue31 rfl rfl) (TOk.t (isBoxE fun _ => isBoxS Θ (k := 4) Δ) (TOk.t (isBoxE fun _ => isBoxS Θ (k := 4) Δ) TOk.d)) ?_
      refine eaB ?_; intro b6
      refine dallB (is := [1, 6]) Ψ rfl ?_
      intro i hi; simp only [List.mem_cons, List.mem_nil_iff, or_false] at hi; rcases hi with rfl | rfl
      ·
       refine doRB rfl (o_call (is := []) call8 (c_New7 p yp hp) rfl rfl Ω rfl) (TOk.xP 1 [] Ψ (TOk.t (isBoxE fun _ => isBoxS Θ (k := 4) Δ) TOk.d)) ?_
       refine eaB ?_; intro y33
       refine dallB (is := [2, 6]) Ψ rfl ?_
       intro i hi; simp only [List.mem_cons, List.mem_nil_iff, or_false] at hi; rcases hi with rfl | rfl
       ·
        refine doRB rfl (o_call (is := []) call7 (c_nClone p y33 hp) rfl rfl Ω rfl) (TOk.xP 1 [] Ψ (TOk.t (isBoxE fun _ => isBoxS Θ (k := 4) Δ) TOk.d)) ?_
        refine eaB ?_; intro zx
        refine dallB (is := [4, 6]) Ψ rfl ?_
        intro i hi; simp only [List.mem_cons, List.mem_nil_iff, or_false] at hi; rcases hi with rfl | rfl
        ·
         refine doRB rfl (o_call (is := []) call8 (c_New7 q yq hq) rfl rfl Ω rfl) (TOk.xP 1 [] Ψ (TOk.xP 4 [] Ψ TOk.d)) ?_
         refine eaB ?_; intro y36
         refine dallB (is := [5, 6]) Ψ rfl ?_
         intro i hi; simp only [List.mem_cons, List.mem_nil_iff, or_false] at hi; rcases hi with rfl | rfl
         ·
          refine doRB rfl (o_call (is := []) call7 (c_nClone q y36 hq) rfl rfl Ω rfl) (TOk.xP 1 [] Ψ (TOk.xP 4 [] Ψ TOk.d)) ?_
          refine eaB ?_; intro zy
          refine dfB 6 Ψ ?_
          refine doRB rfl (o_alloc zeroValue31 rfl rfl) (TOk.xP 1 [] Ψ (TOk.xP 4 [] Ψ TOk.d)) ?_
          refine eaB ?_; intro b5
          refine dfB 8 Ψ ?_
          refine doRB rfl (o_st rfl sizeOf31 rfl rfl rfl rfl rfl Θ Θ Θ) (TOk.xP 1 [] Ψ (TOk.xP 4 [] Ψ TOk.d)) ?_
          refine dfB 9 Ψ ?_
          refine doRB rfl (o_st rfl sizeOf31 rfl rfl rfl rfl rfl Θ Θ Θ) (TOk.xP 1 [] Ψ (TOk.xP 4 [] Ψ TOk.d)) ?_
          refine dnB Ψ (nmid (fun a w h => by first | exact ⟨b5, b6, zx, zy, wL [1, 0, 0, 0] h⟩ | exact ⟨b5, b6, zx, zy, wL [0, 0, 0, 0] h⟩))
         ·
          refine doRB rfl (o_alloc zeroValue31 rfl rfl) (TOk.xP 1 [] Ψ (TOk.xP 4 [] Ψ TOk.d)) ?_
          refine eaB ?_; intro b5
          refine dfB 5 Ψ ?_
          refine doRB rfl (o_call (is := []) call7 (c_nClone q y36 hq) rfl rfl Ω rfl) (TOk.xP 1 [] Ψ (TOk.xP 4 [] Ψ TOk.d)) ?_
          refine eaB ?_; intro zy
          refine dfB 8 Ψ ?_
          refine doRB rfl (o_st rfl sizeOf31 rfl rfl rfl rfl rfl Θ Θ Θ) (TOk.xP 1 [] Ψ (TOk.xP 4 [] Ψ TOk.d)) ?_
          refine dfB 9 Ψ ?_
          refine doRB rfl (o_st rfl sizeOf31 rfl rfl rfl rfl rfl Θ Θ Θ) (TOk.xP 1 [] Ψ (TOk.xP 4 [] Ψ TOk.d)) ?_
          refine dnB Ψ (nmid (fun a w h => by first | exact ⟨b5, b6, zx, zy, wL [1, 0, 0, 0] h⟩ | exact ⟨b5, b6, zx, zy, wL [0, 0, 0, 0] h⟩))
        ·
         refine doRB rfl (o_alloc zeroValue31 rfl rfl) (TOk.xP 1 [] Ψ (TOk.t (isBoxE fun _ => isBoxS Θ (k := 4) Δ) TOk.d)) ?_
         refine eaB ?_; intro b5
         refine dfB 4 Ψ ?_
         refine doRB rfl (o_call (is := []) call8 (c_New7 q yq hq) rfl rfl Ω rfl) (TOk.xP 1 [] Ψ (TOk.xP 4 [] Ψ TOk.d)) ?_
         refine eaB ?_; intro y36
         refine dfB 5 Ψ ?_
         refine doRB rfl (o_call (is := []) call7 (c_nClone q y36 hq) rfl rfl Ω rfl) (TOk.xP 1 [] Ψ (TOk.xP 4 [] Ψ TOk.d)) ?_
         refine eaB ?_; intro zy
         refine dfB 8 Ψ ?_
         refine doRB rfl (o_st rfl sizeOf31 rfl rfl rfl rfl rfl Θ Θ Θ) (TOk.xP 1 [] Ψ (TOk.xP 4 [] Ψ TOk.d)) ?_
         refine dfB 9 Ψ ?_
         refine doRB rfl (o_st rfl sizeOf31 rfl rfl rfl rfl rfl Θ Θ Θ) (TOk.xP 1 [] Ψ (TOk.xP 4 [] Ψ TOk.d)) ?_
         refine dnB Ψ (nmid (fun a w h => by first | exact ⟨b5, b6, zx, zy, wL [1, 0, 0, 0] h⟩ | exact ⟨b5, b6, zx, zy, wL [0, 0, 0, 0] h⟩))
       ·
        refine doRB rfl (o_alloc zeroValue31 rfl rfl) (TOk.xP 1 [] Ψ (TOk.t (isBoxE fun _ => isBoxS Θ (k := 4) Δ) TOk.d)) ?_
        refine eaB ?_; intro b5
        refine dfB 2 Ψ ?_
        refine doRB rfl (o_call (is := []) call7 (c_nClone p y33 hp) rfl rfl Ω rfl) (TOk.xP 1 [] Ψ (TOk.t (isBoxE fun _ => isBoxS Θ (k := 4) Δ) TOk.d)) ?_
        refine eaB ?_; intro zx
        refine dfB 4 Ψ ?_
        refine doRB rfl (o_call (is := []) call8 (c_New7 q yq hq) rfl rfl Ω rfl) (TOk.xP 1 [] Ψ (TOk.xP 4 [] Ψ TOk.d)) ?_
        refine eaB ?_; intro y36
        refine dfB 5 Ψ ?_
        refine doRB rfl (o_call (is := []) call7 (c_nClone q y36 hq) rfl rfl Ω rfl) (TOk.xP 1 [] Ψ (TOk.xP 4 [] Ψ TOk.d)) ?_
        refine eaB ?_; intro zy
        refine dfB 8 Ψ ?_
        refine doRB rfl (o_st rfl sizeOf31 rfl rfl rfl rfl rfl Θ Θ Θ) (TOk.xP 1 [] Ψ (TOk.xP 4 [] Ψ TOk.d)) ?_
        refine dfB 9 Ψ ?_
        refine doRB rfl (o_st rfl sizeOf31 rfl rfl rfl rfl rfl Θ Θ Θ) (TOk.xP 1 [] Ψ (TOk.xP 4 [] Ψ TOk.d)) ?_
        refine dnB Ψ (nmid (fun a w h => by first | exact ⟨b5, b6, zx, zy, wL [1, 0, 0, 0] h⟩ | exact ⟨b5, b6, zx, zy, wL [0, 0, 0, 0] h⟩))
      ·
       refine doRB rfl (o_alloc zeroValue31 rfl rfl) (TOk.t (isBoxE fun _ => isBoxS Θ (k := 4) Δ) (TOk.t (isBoxE fun _ => isBoxS Θ (k := 4) Δ) TOk.d)) ?_
       refine eaB ?_; intro b5
       refine dfB 1 Ψ ?_
       refine doRB rfl (o_call (is := []) call8 (c_New7 p yp hp) rfl rfl Ω rfl) (TOk.xP 1 [] Ψ (TOk.t (isBoxE fun _ => isBoxS Θ (k := 4) Δ) TOk.d)) ?_
       refine eaB ?_; intro y33
       refine dfB 2 Ψ ?_
       refine doRB rfl (o_call (is := []) call7 (c_nClone p y33 hp) rfl rfl Ω rfl) (TOk.xP 1 [] Ψ (TOk.t (isBoxE fun _ => isBoxS Θ (k := 4) Δ) TOk.d)) ?_
       refine eaB ?_; intro zx
       refine dfB 4 Ψ ?_
       refine doRB rfl (o_call (is := []) call8 (c_New7 q yq hq) rfl rfl Ω rfl) (TOk.xP 1 [] Ψ (TOk.xP 4 [] Ψ TOk.d)) ?_
       refine eaB ?_; intro y36
       refine dfB 5 Ψ ?_
       refine doRB rfl (o_call (is := []) call7 (c_nClone q y36 hq) rfl rfl Ω rfl) (TOk.xP 1 [] Ψ (TOk.xP 4 [] Ψ TOk.d)) ?_
       refine eaB ?_; intro zy
       refine dfB 8 Ψ ?_
       refine doRB rfl (o_st rfl sizeOf31 rfl rfl rfl rfl rfl Θ Θ Θ) (TOk.xP 1 [] Ψ (TOk.xP 4 [] Ψ TOk.d)) ?_
       refine dfB 9 Ψ ?_
       refine doRB rfl (o_st rfl sizeOf31 rfl rfl rfl rfl rfl Θ Θ Θ) (TOk.xP 1 [] Ψ (TOk.xP 4 [] Ψ TOk.d)) ?_
       refine dnB Ψ (nmid (fun a w h => by first | exact ⟨b5, b6, zx, zy, wL [1, 0, 0, 0] h⟩ | exact ⟨b5, b6, zx, zy, wL [0, 0, 0, 0] h⟩))
    ·
     refine nex fun b5 => nex fun b6 => nex fun zx => nex fun zy => ?_
     refine k_ 3 ?_
     refine ls (o_ldw isAgg31 sizeOf31 rfl Θ (by rfl) rfl) ?_
     refine ls (o_ldw isAgg31 sizeOf31 rfl Θ (by rfl) rfl) ?_
     refine lC [] call9 (c_nSwapO p q zx zy hp hq) ?_; rintro ⟨⟨⟨za, zb⟩, is⟩, hz⟩
     dsimp only at hz
     refine k_ 4 ?_
     refine ls (o_alloc zeroValue31 rfl rfl) ?_
     refine le ?_; intro b7
     refine ls (o_alloc zeroValue31 rfl rfl) ?_
     refine le ?_; intro b8
     refine k_ 7 ?_
     refine ls (o_ldw isAgg31 sizeOf31 rfl Θ (by rfl) rfl) ?_
     refine lC [] call7 (c_nCloneO p zx hp) ?_; intro zc
     refine ls (o_alloc zeroValue31 rfl rfl) ?_
     refine le ?_; intro b10
     refine k_ 6 ?_
     refine ls (o_ldw isAgg31 sizeOf31 rfl Θ (by rfl) rfl) ?_
     refine ls (o_ldw isAgg31 sizeOf31 rfl Θ (by rfl) rfl) ?_
     refine ls (o_ldw isAgg31 sizeOf31 rfl Θ (by rfl) rfl) ?_
     refine ls (o_bsl [za, zb, zc] underlying36 sizeOf31 zeroValue31 rfl (Enum.t (Enum.t (Enum.t Enum.d))) (RV.t () rfl Sub.d (RV.t () rfl Sub.d (RV.t () rfl Sub.d RV.d))) rfl (by decide) (by decide) rfl) ?_
     refine le ?_; intro b50
     refine lmono (fun a w h => Go.Sx.freeze (i := 0) rfl h) ?_
     refine k_ 5 ?_
     refine cl (ι := {k : Nat // k ≤ 3}) (fun i => St M0 F0 w0 131 [(2, .pointer (some ⟨b2, 0, none⟩)), (3, .pointer (some ⟨b3, 0, none⟩)), (5, .pointer (some ⟨b5, 0, none⟩)), (6, .pointer (some ⟨b6, 0, none⟩)), (7, .pointer (some ⟨b7, 0, none⟩)), (9, .bool is), (50, .slice (some ⟨b50, 0, none⟩) 3 3), (51, .int .i64 3), (52, .int .i64 (i.1 : Int))] [bunX (([za, zb, zc].take i.1).map (patX 3 39 9 2000001) ++ ([za, zb, zc].drop i.1).map (patX 3 39 9 2000000)), box b5 31 (Rp.enc p zx), box b6 31 (Rp.enc q zy), box b7 31 (Rp.enc za ()), box b3 25 (Rp.enc q yq), box b2 25 (Rp.enc p yp)] [slA (some ⟨b50, 0, none⟩) [za, zb, zc], slA zx.1.1 p.deps, slA zx.2.1 p.l, capA zx.2.2 p.l.length, slA zy.1.1 q.deps, slA zy.2.1 q.l, capA zy.2.2 q.l.length, slA yp.1.1 p.deps, slA yp.2.1 p.l, capA yp.2.2 p.l.length, slA yq.1.1 q.deps, slA yq.2.1 q.l, capA yq.2.2 q.l.length]) (fun i => 3 - i.1) ⟨0, Nat.zero_le _⟩ (fun a w h => St.mkbun (xs := [patX 3 39 9 2000000 za, patX 3 39 9 2000000 zb, patX 3 39 9 2000000 zc]) (wL [4, 4, 1, 3, 3, 2, 2, 2] h)) ?_
     rintro ⟨k, hk⟩
     refine cmono (S' := St M0 F0 w0 131 [(2, .pointer (some ⟨b2, 0, none⟩)), (3, .pointer (some ⟨b3, 0, none⟩)), (5, .pointer (some ⟨b5, 0, none⟩)), (6, .pointer (some ⟨b6, 0, none⟩)), (7, .pointer (some ⟨b7, 0, none⟩)), (9, .bool is), (50, .slice (some ⟨b50, 0, none⟩) 3 3), (51, .int .i64 3), (52, .int .i64 (k : Int))] [bunX (([za, zb, zc].take k).map (patX 3 39 9 2000001) ++ ([za, zb, zc].drop k).map (patX 3 39 9 2000000)), box b5 31 (Rp.enc p zx), box b6 31 (Rp.enc q zy), box b7 31 (Rp.enc za ()), box b3 25 (Rp.enc q yq), box b2 25 (Rp.enc p yp)] [slA (some ⟨b50, 0, none⟩) [za, zb, zc], slA zx.1.1 p.deps, slA zx.2.1 p.l, capA zx.2.2 p.l.length, slA zy.1.1 q.deps, slA zy.2.1 q.l, capA zy.2.2 q.l.length, slA yp.1.1 p.deps, slA yp.2.1 p.l, capA yp.2.2 p.l.length, slA yq.1.1 q.deps, slA yq.2.1 q.l, capA yq.2.2 q.l.length]) Ħ ?_
     refine k_ 6 ?_
     refine cc rfl ?_ ?_
     ·
      intro h53
      try simp only [nrmZ] at h53
      have hk1 : k < 3 := by omega
      obtain ⟨⟨zid, znote, ⟨dA, dN, dc⟩, ⟨lA, lN, lc⟩⟩, hz1⟩ : ∃ z, [za, zb, zc][k]? = some z := ⟨_, List.getElem?_eq_getElem hk1⟩
      refine k_ 5 ?_
      refine elC Θ k (hz1) ?_; rintro zbp zop zyp hAp
      refine cr ?_
      refine ls (op (p_ia k hAp hk1 rfl underlying36 sizeOf31 rfl rfl) rfl) ?_
      refine ls (o_ldj isAgg31 sizeOf31 rfl Θ 0 rfl Δ rfl) ?_
      refine ls (o_alloc zeroValue31 rfl rfl) ?_
      refine le ?_; intro b12
      refine k_ 5 ?_
      refine cmono (fun a w h => St.pick (xs := ([za, zb, zc].take k).map (patX 3 39 9 2000001)) (ys := ([za, zb, zc].drop (k + 1)).map (patX 3 39 9 2000000)) (x := patX 3 39 9 2000000 ⟨zid, znote, ⟨dA, dN, dc⟩, ⟨lA, lN, lc⟩⟩) (by have h' := St.front (i := 1) rfl h; rw [drop_get hz1] at h'; exact h')) ?_
      refine unpatC (i := 0) rfl ?_; rintro ⟨l1, hl1, hbl⟩ ⟨hs1, hh1, hbh⟩
      dsimp only at hl1 hh1 hbl hbh
      refine k_ 8 ?_
      refine cl (ι := {q : Nat × List Int // q.1 ≤ dN ∧ q.2.length = dN}) (fun i => St M0 F0 w0 131 [(2, .pointer (some ⟨b2, 0, none⟩)), (3, .pointer (some ⟨b3, 0, none⟩)), (5, .pointer (some ⟨b5, 0, none⟩)), (6, .pointer (some ⟨b6, 0, none⟩)), (7, .pointer (some ⟨b7, 0, none⟩)), (9, .bool is), (50, .slice (some ⟨b50, 0, none⟩) 3 3), (51, .int .i64 3), (52, .int .i64 (k : Int)), (12, .pointer (some ⟨b12, 0, none⟩)), (58, .int .i64 (dN : Int)), (59, .int .i64 (i.1.1 : Int))] [row 3 dA dc i.1.2, row 39 lA lc hs1, bunX (hs1.map fun h => newX 9 2000000 h.new), bunX (([za, zb, zc].take k).map (patX 3 39 9 2000001) ++ ([za, zb, zc].drop (k + 1)).map (patX 3 39 9 2000000)), box b12 31 [.int .i64 zid, .string znote, .slice dA dN dc, .slice lA lN lc], box b5 31 (Rp.enc p zx), box b6 31 (Rp.enc q zy), box b7 31 (Rp.enc za ()), box b3 25 (Rp.enc q yq), box b2 25 (Rp.enc p yp)] [slA (some ⟨b50, 0, none⟩) [za, zb, zc], slA zx.1.1 p.deps, slA zx.2.1 p.l, capA zx.2.2 p.l.length, slA zy.1.1 q.deps, slA zy.2.1 q.l, capA zy.2.2 q.l.length, slA yp.1.1 p.deps, slA yp.2.1 p.l, capA yp.2.2 p.l.length, slA yq.1.1 q.deps, slA yq.2.1 q.l, capA yq.2.2 q.l.length]) (fun i => dN - i.1.1) ⟨(0, l1), Nat.zero_le _, hl1⟩ (wK [0, 0, 0, 0, 0, 0, 0, 0, 0, 0]) ?_
      rintro ⟨⟨k2, l2⟩, hk2, hl2⟩
      refine cmono (S' := St M0 F0 w0 131 [(2, .pointer (some ⟨b2, 0, none⟩)), (3, .pointer (some ⟨b3, 0, none⟩)), (5, .pointer (some ⟨b5, 0, none⟩)), (6, .pointer (some ⟨b6, 0, none⟩)), (7, .pointer (some ⟨b7, 0, none⟩)), (9, .bool is), (50, .slice (some ⟨b50, 0, none⟩) 3 3), (51, .int .i64 3), (52, .int .i64 (k : Int)), (12, .pointer (some ⟨b12, 0, none⟩)), (58, .int .i64 (dN : Int)), (59, .int .i64 (k2 : Int))] [row 3 dA dc l2, row 39 lA lc hs1, bunX (hs1.map fun h => newX 9 2000000 h.new), bunX (([za, zb, zc].take k).map (patX 3 39 9 2000001) ++ ([za, zb, zc].drop (k + 1)).map (patX 3 39 9 2000000)), box b12 31 [.int .i64 zid, .string znote, .slice dA dN dc, .slice lA lN lc], box b5 31 (Rp.enc p zx), box b6 31 (Rp.enc q zy), box b7 31 (Rp.enc za ()), box b3 25 (Rp.enc q yq), box b2 25 (Rp.enc p yp)] [slA (some ⟨b50, 0, none⟩) [za, zb, zc], slA zx.1.1 p.deps, slA zx.2.1 p.l, capA zx.2.2 p.l.length, slA zy.1.1 q.deps, slA zy.2.1 q.l, capA zy.2.2 q.l.length, slA yp.1.1 p.deps, slA yp.2.1 p.l, capA yp.2.2 p.l.length, slA yq.1.1 q.deps, slA yq.2.1 q.l, capA yq.2.2 q.l.length]) Ħ ?_
      refine k_ 6 ?_
      refine cc rfl ?_ ?_
      ·
       intro h60
       dsimp only at hk2 hl2
       try simp only [nrmZ] at h60
       have hk3 : k2 < l2.length := by omega
       have hne : l2 ≠ [] := fun e => by rw [e] at hk3; simp at hk3
       refine k_ 10 ?_
       refine rowC (α := Int) (l := l2) Θ hne ?_; rintro g rfl
       refine k_ 4 ?_
       refine ls (op (p_ia k2 rfl (by omega) rfl underlying22 sizeOf3 rfl rfl) rfl) ?_
       refine ls (o_pT (p_ld isAgg3 rfl) (isRowI Θ (List.getElem?_eq_getElem (l := l2) hk3)) rfl) ?_
       refine ls (op (p_addw rfl rfl) rfl) ?_
       refine ls (op (p_ia k2 rfl (by omega) rfl underlying22 sizeOf3 rfl rfl) rfl) ?_
       refine ls (o_strow (z := IntKind.i64.wrap (l2[k2] + 1)) (yz := ()) rfl sizeOf3 rfl rfl rfl Θ hk3 Θ Ω) ?_
       refine k_ 7 ?_
       refine nnext ⟨(k2 + 1, l2.set k2 (IntKind.i64.wrap (l2[k2] + 1))), by dsimp only; omega, by rw [List.length_set]; exact hl2⟩ (by dsimp only; omega) (wK [0, 0, 0, 0, 0, 0, 0, 0, 0, 0])
      ·
       intro h60
       dsimp only at hk2 hl2
       try simp only [nrmZ] at h60
       refine k_ 14 ?_
       refine cl (ι := {q : Nat × List PrimH // q.1 ≤ lN ∧ q.2.length = lN}) (fun i => St M0 F0 w0 131 [(2, .pointer (some ⟨b2, 0, none⟩)), (3, .pointer (some ⟨b3, 0, none⟩)), (5, .pointer (some ⟨b5, 0, none⟩)), (6, .pointer (some ⟨b6, 0, none⟩)), (7, .pointer (some ⟨b7, 0, none⟩)), (9, .bool is), (50, .slice (some ⟨b50, 0, none⟩) 3 3), (51, .int .i64 3), (52, .int .i64 (k : Int)), (12, .pointer (some ⟨b12, 0, none⟩)), (72, .int .i64 (lN : Int)), (73, .int .i64 (i.1.1 : Int))] [row 39 lA lc i.1.2, bunX (((i.1.2).take i.1.1).map (fun h => newX 9 2000001 h.new) ++ ((i.1.2).drop i.1.1).map (fun h => newX 9 2000000 h.new)), row 3 dA dc l2, bunX (([za, zb, zc].take k).map (patX 3 39 9 2000001) ++ ([za, zb, zc].drop (k + 1)).map (patX 3 39 9 2000000)), box b12 31 [.int .i64 zid, .string znote, .slice dA dN dc, .slice lA lN lc], box b5 31 (Rp.enc p zx), box b6 31 (Rp.enc q zy), box b7 31 (Rp.enc za ()), box b3 25 (Rp.enc q yq), box b2 25 (Rp.enc p yp)] [slA (some ⟨b50, 0, none⟩) [za, zb, zc], slA zx.1.1 p.deps, slA zx.2.1 p.l, capA zx.2.2 p.l.length, slA zy.1.1 q.deps, slA zy.2.1 q.l, capA zy.2.2 q.l.length, slA yp.1.1 p.deps, slA yp.2.1 p.l, capA yp.2.2 p.l.length, slA yq.1.1 q.deps, slA yq.2.1 q.l, capA yq.2.2 q.l.length]) (fun i => lN - i.1.1) ⟨(0, hs1), Nat.zero_le _, hh1⟩ (wK [1, 1, 0, 0, 0, 0, 0, 0, 0, 0]) ?_
       rintro ⟨⟨k3, hs⟩, hk3, hhs⟩
       refine cmono (S' := St M0 F0 w0 131 [(2, .pointer (some ⟨b2, 0, none⟩)), (3, .pointer (some ⟨b3, 0, none⟩)), (5, .pointer (some ⟨b5, 0, none⟩)), (6, .pointer (some ⟨b6, 0, none⟩)), (7, .pointer (some ⟨b7, 0, none⟩)), (9, .bool is), (50, .slice (some ⟨b50, 0, none⟩) 3 3), (51, .int .i64 3), (52, .int .i64 (k : Int)), (12, .pointer (some ⟨b12, 0, none⟩)), (72, .int .i64 (lN : Int)), (73, .int .i64 (k3 : Int))] [row 39 lA lc hs, bunX (((hs).take k3).map (fun h => newX 9 2000001 h.new) ++ ((hs).drop k3).map (fun h => newX 9 2000000 h.new)), row 3 dA dc l2, bunX (([za, zb, zc].take k).map (patX 3 39 9 2000001) ++ ([za, zb, zc].drop (k + 1)).map (patX 3 39 9 2000000)), box b12 31 [.int .i64 zid, .string znote, .slice dA dN dc, .slice lA lN lc], box b5 31 (Rp.enc p zx), box b6 31 (Rp.enc q zy), box b7 31 (Rp.enc za ()), box b3 25 (Rp.enc q yq), box b2 25 (Rp.enc p yp)] [slA (some ⟨b50, 0, none⟩) [za, zb, zc], slA zx.1.1 p.deps, slA zx.2.1 p.l, capA zx.2.2 p.l.length, slA zy.1.1 q.deps, slA zy.2.1 q.l, capA zy.2.2 q.l.length, slA yp.1.1 p.deps, slA yp.2.1 p.l, capA yp.2.2 p.l.length, slA yq.1.1 q.deps, slA yq.2.1 q.l, capA yq.2.2 q.l.length]) Ħ ?_
       refine k_ 6 ?_
       refine cc rfl ?_ ?_
       ·
        intro h74
        dsimp only at hk3 hhs
        try simp only [nrmZ] at h74
        have hk4 : k3 < hs.length := by omega
        have hne : hs ≠ [] := fun e => by rw [e] at hk4; simp at hk4
        obtain ⟨⟨hkd, hnm, hto, hps, ⟨oA, oN, oc⟩, ⟨nA, nn, nc⟩⟩, hh⟩ : ∃ z, hs[k3]? = some z := ⟨_, List.getElem?_eq_getElem hk4⟩
        refine k_ 11 ?_
        refine rowC (α := PrimH) (l := hs) Θ hne ?_; rintro g rfl
        refine k_ 4 ?_
        refine ls (op (p_ia k3 rfl (by omega) rfl underlying29 sizeOf39 rfl rfl) rfl) ?_
        refine k_ 1 ?_
        refine ls (o_pT (p_ld isAgg3 rfl) (isRowF (f := 3) (k := 1) (yx := ()) Θ hh (fun _ => rfl) Δ) rfl) ?_
        refine ls (op (p_addw rfl rfl) rfl) ?_
        refine ls (op (p_ia k3 rfl (by omega) rfl underlying29 sizeOf39 rfl rfl) rfl) ?_
        refine k_ 1 ?_
        refine ls (o_strowC (f := 3) (z := (⟨hkd, hnm, hto, IntKind.i64.wrap (hps + 3), ⟨oA, oN, oc⟩, ⟨nA, nn, nc⟩⟩ : PrimH)) (yx := ()) (yz := ()) rfl sizeOf3 rfl rfl rfl rfl Θ hh (fun _ => rfl) rfl (by decide) Θ Sub.d) ?_
        refine k_ 3 ?_
        have hst : (hs.set k3 (⟨hkd, hnm, hto, IntKind.i64.wrap (hps + 3), ⟨oA, oN, oc⟩, ⟨nA, nn, nc⟩⟩ : PrimH))[k3]? = some (⟨hkd, hnm, hto, IntKind.i64.wrap (hps + 3), ⟨oA, oN, oc⟩, ⟨nA, nn, nc⟩⟩ : PrimH) := by rw [List.getElem?_set_self hk4]
        refine cmono (fun a w h => St.pick (xs := (hs.take k3).map (fun h => newX 9 2000001 h.new)) (ys := (hs.drop (k3 + 1)).map (fun h => newX 9 2000000 h.new)) (x := newX 9 2000000 ⟨nA, nn, nc⟩) (by have h' := St.front (i := 1) rfl h; rw [drop_get hh] at h'; exact h')) ?_
        refine unexC (i := 0) rfl ?_; rintro ⟨l3, hl3, hbn, hb3⟩
        dsimp only at hl3 hb3 hbn
        refine k_ 4 ?_
        refine ls (op (p_ia k3 rfl (by omega) rfl underlying29 sizeOf39 rfl rfl) rfl) ?_
        refine k_ 1 ?_
        refine ls (o_pT (p_ld isAgg37 rfl) (isRowF (f := 5) (k := 1) (yx := ()) Θ hst (fun _ => rfl) Δ) rfl) ?_
        refine k_ 5 ?_
        refine cl (ι := {q : Nat × List ByteArray // q.1 ≤ nn ∧ q.2.length = nn ∧ (∀ s ∈ q.2, s.size ≤ 2000001) ∧ ∀ s ∈ q.2.drop q.1, s.size ≤ 2000000}) (fun i => St M0 F0 w0 131 [(2, .pointer (some ⟨b2, 0, none⟩)), (3, .pointer (some ⟨b3, 0, none⟩)), (5, .pointer (some ⟨b5, 0, none⟩)), (6, .pointer (some ⟨b6, 0, none⟩)), (7, .pointer (some ⟨b7, 0, none⟩)), (9, .bool is), (50, .slice (some ⟨b50, 0, none⟩) 3 3), (51, .int .i64 3), (52, .int .i64 (k : Int)), (12, .pointer (some ⟨b12, 0, none⟩)), (72, .int .i64 (lN : Int)), (14, .int .i64 (k3 : Int)), (73, .int .i64 (k3 : Int)), (91, .int .i64 (nn : Int)), (92, .int .i64 (i.1.1 : Int))] [row 9 nA nc i.1.2, bunX ((hs.take k3).map (fun h => newX 9 2000001 h.new) ++ (hs.drop (k3 + 1)).map (fun h => newX 9 2000000 h.new)), row 39 (some ⟨g, 0, none⟩) lc (hs.set k3 (⟨hkd, hnm, hto, IntKind.i64.wrap (hps + 3), ⟨oA, oN, oc⟩, ⟨nA, nn, nc⟩⟩ : PrimH)), row 3 dA dc l2, bunX (([za, zb, zc].take k).map (patX 3 39 9 2000001) ++ ([za, zb, zc].drop (k + 1)).map (patX 3 39 9 2000000)), box b12 31 [.int .i64 zid, .string znote, .slice dA dN dc, .slice (some ⟨g, 0, none⟩) lN lc], box b5 31 (Rp.enc p zx), box b6 31 (Rp.enc q zy), box b7 31 (Rp.enc za ()), box b3 25 (Rp.enc q yq), box b2 25 (Rp.enc p yp)] [slA (some ⟨b50, 0, none⟩) [za, zb, zc], slA zx.1.1 p.deps, slA zx.2.1 p.l, capA zx.2.2 p.l.length, slA zy.1.1 q.deps, slA zy.2.1 q.l, capA zy.2.2 q.l.length, slA yp.1.1 p.deps, slA yp.2.1 p.l, capA yp.2.2 p.l.length, slA yq.1.1 q.deps, slA yq.2.1 q.l, capA yq.2.2 q.l.length]) (fun i => nn - i.1.1) ⟨(0, l3), Nat.zero_le _, hl3, (fun s hs => Nat.le_succ_of_le (hb3 s hs)), hb3⟩ (wK [0, 0, 0, 0, 0, 0, 0, 0, 0, 0, 0]) ?_
        rintro ⟨⟨k4, l4⟩, hk5, hl4, hb4, hd4⟩
        refine cmono (S' := St M0 F0 w0 131 [(2, .pointer (some ⟨b2, 0, none⟩)), (3, .pointer (some ⟨b3, 0, none⟩)), (5, .pointer (some ⟨b5, 0, none⟩)), (6, .pointer (some ⟨b6, 0, none⟩)), (7, .pointer (some ⟨b7, 0, none⟩)), (9, .bool is), (50, .slice (some ⟨b50, 0, none⟩) 3 3), (51, .int .i64 3), (52, .int .i64 (k : Int)), (12, .pointer (some ⟨b12, 0, none⟩)), (72, .int .i64 (lN : Int)), (14, .int .i64 (k3 : Int)), (73, .int .i64 (k3 : Int)), (91, .int .i64 (nn : Int)), (92, .int .i64 (k4 : Int))] [row 9 nA nc l4, bunX ((hs.take k3).map (fun h => newX 9 2000001 h.new) ++ (hs.drop (k3 + 1)).map (fun h => newX 9 2000000 h.new)), row 39 (some ⟨g, 0, none⟩) lc (hs.set k3 (⟨hkd, hnm, hto, IntKind.i64.wrap (hps + 3), ⟨oA, oN, oc⟩, ⟨nA, nn, nc⟩⟩ : PrimH)), row 3 dA dc l2, bunX (([za, zb, zc].take k).map (patX 3 39 9 2000001) ++ ([za, zb, zc].drop (k + 1)).map (patX 3 39 9 2000000)), box b12 31 [.int .i64 zid, .string znote, .slice dA dN dc, .slice (some ⟨g, 0, none⟩) lN lc], box b5 31 (Rp.enc p zx), box b6 31 (Rp.enc q zy), box b7 31 (Rp.enc za ()), box b3 25 (Rp.enc q yq), box b2 25 (Rp.enc p yp)] [slA (some ⟨b50, 0, none⟩) [za, zb, zc], slA zx.1.1 p.deps, slA zx.2.1 p.l, capA zx.2.2 p.l.length, slA zy.1.1 q.deps, slA zy.2.1 q.l, capA zy.2.2 q.l.length, slA yp.1.1 p.deps, slA yp.2.1 p.l, capA yp.2.2 p.l.length, slA yq.1.1 q.deps, slA yq.2.1 q.l, capA yq.2.2 q.l.length]) Ħ ?_
        refine k_ 6 ?_
        refine cc rfl ?_ ?_
        ·
         intro h93
         dsimp only at hk5 hl4 hb4 hd4
         try simp only [nrmZ] at h93
         have hk6 : k4 < l4.length := by omega
         have hne : l4 ≠ [] := fun e => by rw [e] at hk6; simp at hk6
         have hsz := hd4 l4[k4] (by rw [List.drop_eq_getElem_cons hk6]; exact List.mem_cons_self)
         refine k_ 10 ?_
         refine rowC (α := ByteArray) (l := l4) Θ hne ?_; rintro gn rfl
         refine k_ 4 ?_
         refine ls (op (p_ia k3 rfl (by omega) rfl underlying29 sizeOf39 rfl rfl) rfl) ?_
         refine k_ 1 ?_
         refine ls (o_pT (p_ld isAgg37 rfl) (isRowF (f := 5) (k := 1) (yx := ()) Θ hst (fun _ => rfl) Δ) rfl) ?_
         refine k_ 1 ?_
         refine ls (op (p_ia k4 rfl (show k4 < nn by omega) rfl underlying37 sizeOf9 rfl rfl) rfl) ?_
         refine ls (o_pT (p_ld isAgg9 rfl) (isRowF (α := ByteArray) (f := 0) (k := 1) (yx := ()) Θ (List.getElem?_eq_getElem (l := l4) hk6) (fun _ => rfl) Δ) rfl) ?_
         refine ls (op (p_cat rfl rfl (by have : (⟨#[63]⟩ : ByteArray).size = 1 := rfl; omega)) rfl) ?_
         refine ls (op (p_ia k4 rfl (show k4 < nn by omega) rfl underlying37 sizeOf9 rfl rfl) rfl) ?_
         refine ls (o_strow (z := (l4[k4] ++ (⟨#[63]⟩ : ByteArray))) (yz := ()) rfl sizeOf9 rfl rfl rfl Θ hk6 Θ Ω) ?_
         refine k_ 7 ?_
         refine nnext ⟨(k4 + 1, l4.set k4 (l4[k4] ++ (⟨#[63]⟩ : ByteArray))), by dsimp only; omega, by rw [List.length_set]; exact hl4, own_set1 hb4 (by rw [ByteArray.size_append]; have : (⟨#[63]⟩ : ByteArray).size = 1 := rfl; omega), own_set2 hd4⟩ (by dsimp only; omega) (wK [0, 0, 0, 0, 0, 0, 0, 0, 0, 0, 0])
        ·
         intro h93
         dsimp only at hk5 hl4 hb4 hd4
         try simp only [nrmZ] at h93
         refine k_ 10 ?_
         refine nnext ⟨(k3 + 1, hs.set k3 (⟨hkd, hnm, hto, IntKind.i64.wrap (hps + 3), ⟨oA, oN, oc⟩, ⟨nA, nn, nc⟩⟩ : PrimH)), by dsimp only; omega, by rw [List.length_set]; exact hhs⟩ (by dsimp only; omega) ?_
         intro a w h
         have h := St.mkex (f := fun (l' : {l' : List ByteArray // l'.length = nn ∧ nn ≤ 2000000 ∧ ∀ s ∈ l', s.size ≤ 2000001}) => row 9 nA nc l'.1) ⟨l4, hl4, hbn, hb4⟩ h
         have h := St.unpick h
         dsimp only
         rw [set_next hk4]
         exact wL [1, 0, 0, 0, 0, 0, 0, 0, 0, 0] h
       ·
        intro h74
        dsimp only at hk3 hhs
        try simp only [nrmZ] at h74
        obtain rfl : k3 = lN := by omega
        refine k_ 10 ?_
        refine nnext ⟨k + 1, hk1⟩ (by dsimp only; omega) ?_
        intro a w h
        rw [map_all hhs] at h
        have h := St.mkpat zid znote (by omega) (by omega) h
        rw [hl2, hhs] at h
        have h := St.unpick h
        dsimp only
        rw [get_next hz1]
        exact wL [0, 1, 1, 1, 1, 1] h
     ·
      intro h53
      try simp only [nrmZ] at h53
      obtain rfl : k = 3 := by omega
      refine k_ 6 ?_
      rcases is with _ | _
      ·
       have hz0 : za.l.n = 0 := hz rfl
       refine cdB [0, 3, 5, 9, 11] [(2, b5, 0, _), (4, b2, 0, _), (8, b6, 0, _), (10, b3, 0, _), (17, b7, 3, _)] TryzX.mixed Ψ Ψ (TOk.t (isBoxS Θ (k := 4) Δ) (TOk.t (isBoxS Θ (k := 4) Δ) (TOk.t (isBoxS Θ (k := 4) Δ) (TOk.t (isBoxS Θ (k := 4) Δ) (TOk.t (isBoxS Θ (k := 1) Δ) TOk.d))))) ?_
       refine dfB 0 Ψ ?_
       refine doRB rfl (o_call (is := []) call6 (c_alive7) rfl rfl Ω rfl) (TOk.t (isBoxE fun _ => isBoxS Θ (k := 4) Δ) (TOk.t (isBoxE fun _ => isBoxS Θ (k := 4) Δ) (TOk.t (isBoxE fun _ => isBoxS Θ (k := 4) Δ) (TOk.t (isBoxE fun _ => isBoxS Θ (k := 4) Δ) (TOk.t (isBoxE fun _ => isBoxS Θ (k := 1) Δ) TOk.d))))) ?_
       refine eaB ?_; intro x109
       refine t_ 1 1 ?_
       refine tkB 2 rfl Ψ Υ (gyes rfl rfl rfl rfl) (TTat (List.Mem.head _)) (p_lda isAgg31 sizeOf31 rfl rfl) rfl ?_
       refine tkB 4 rfl Ψ Υ (gyes rfl rfl rfl rfl) (TTat (List.Mem.tail _ (List.Mem.head _))) (p_lda isAgg25 sizeOf25 rfl rfl) rfl ?_
       refine dfB 3 Ψ ?_
       refine doGB rfl rfl rfl rfl rfl (o_call (is := []) call11 (c_Old7 p zx hp) rfl rfl Ω rfl) (TOk.xP 3 [] Ψ (TOk.t (isBoxE fun _ => isBoxS Θ (k := 4) Δ) (TOk.t (isBoxE fun _ => isBoxS Θ (k := 4) Δ) (TOk.t (isBoxE fun _ => isBoxS Θ (k := 4) Δ) (TOk.t (isBoxE fun _ => isBoxS Θ (k := 1) Δ) TOk.d))))) ?_
       refine eaB ?_; intro y112
       refine dfB 5 Ψ ?_
       refine doGB rfl rfl rfl rfl rfl (o_call (is := []) call10 (c_rSame p p y112 yp hp hp) rfl rfl Ω rfl) (TOk.xP 3 [] Ψ (TOk.xP 5 [] Ψ (TOk.t (isBoxE fun _ => isBoxS Θ (k := 4) Δ) (TOk.t (isBoxE fun _ => isBoxS Θ (k := 4) Δ) (TOk.t (isBoxE fun _ => isBoxS Θ (k := 1) Δ) TOk.d))))) ?_
       refine eaB ?_; intro x114
       refine fixB (congrArg Value.bool (decide_eq_true rfl)) ?_
       refine t_ 6 2 ?_
       refine tkB 8 rfl Ψ Υ (gyes rfl rfl rfl rfl) (TTat (List.Mem.tail _ (List.Mem.tail _ (List.Mem.head _)))) (p_lda isAgg31 sizeOf31 rfl rfl) rfl ?_
       refine tkB 10 rfl Ψ Υ (gyes rfl rfl rfl rfl) (TTat (List.Mem.tail _ (List.Mem.tail _ (List.Mem.tail _ (List.Mem.head _))))) (p_lda isAgg25 sizeOf25 rfl rfl) rfl ?_
       refine dfB 9 Ψ ?_
       refine doGB rfl rfl rfl rfl rfl (o_call (is := []) call11 (c_Old7 q zy hq) rfl rfl Ω rfl) (TOk.xP 3 [] Ψ (TOk.xP 5 [] Ψ (TOk.xP 9 [] Ψ (TOk.t (isBoxE fun _ => isBoxS Θ (k := 4) Δ) (TOk.t (isBoxE fun _ => isBoxS Θ (k := 1) Δ) TOk.d))))) ?_
       refine eaB ?_; intro y118
       refine dfB 11 Ψ ?_
       refine doGB rfl rfl rfl rfl rfl (o_call (is := []) call10 (c_rSame q q y118 yq hq hq) rfl rfl Ω rfl) (TOk.xP 3 [] Ψ (TOk.xP 5 [] Ψ (TOk.xP 9 [] Ψ (TOk.xP 11 [] Ψ (TOk.t (isBoxE fun _ => isBoxS Θ (k := 1) Δ) TOk.d))))) ?_
       refine eaB ?_; intro x120
       refine fixB (congrArg Value.bool (decide_eq_true rfl)) ?_
       refine t_ 12 5 ?_
       refine tkB 17 rfl Ψ Υ (gyes rfl rfl rfl rfl) (TTat (List.Mem.tail _ (List.Mem.tail _ (List.Mem.tail _ (List.Mem.tail _ (List.Mem.head _)))))) (p_ld isAgg29 rfl) rfl ?_
       refine t_ 18 2 ?_
       refine fixB (congrArg Value.bool (decide_eq_true (by rw [hz0]; rfl))) ?_
       refine t_ 20 3 ?_
       refine dnB Ψ ?_
       refine k_ 3 ?_
       exact rR [] ()
      ·
       skip
       refine cdB [0, 3, 5, 9, 11] [(2, b5, 0, _), (4, b2, 0, _), (8, b6, 0, _), (10, b3, 0, _)] TryzX.mixed Ψ Ψ (TOk.t (isBoxS Θ (k := 4) Δ) (TOk.t (isBoxS Θ (k := 4) Δ) (TOk.t (isBoxS Θ (k := 4) Δ) (TOk.t (isBoxS Θ (k := 4) Δ) TOk.d)))) ?_
       refine dfB 0 Ψ ?_
       refine doRB rfl (o_call (is := []) call6 (c_alive7) rfl rfl Ω rfl) (TOk.t (isBoxE fun _ => isBoxS Θ (k := 4) Δ) (TOk.t (isBoxE fun _ => isBoxS Θ (k := 4) Δ) (TOk.t (isBoxE fun _ => isBoxS Θ (k := 4) Δ) (TOk.t (isBoxE fun _ => isBoxS Θ (k := 4) Δ) TOk.d)))) ?_
       refine eaB ?_; intro x109
       refine t_ 1 1 ?_
       refine tkB 2 rfl Ψ Υ (gyes rfl rfl rfl rfl) (TTat (List.Mem.head _)) (p_lda isAgg31 sizeOf31 rfl rfl) rfl ?_
       refine tkB 4 rfl Ψ Υ (gyes rfl rfl rfl rfl) (TTat (List.Mem.tail _ (List.Mem.head _))) (p_lda isAgg25 sizeOf25 rfl rfl) rfl ?_
       refine dfB 3 Ψ ?_
       refine doGB rfl rfl rfl rfl rfl (o_call (is := []) call11 (c_Old7 p zx hp) rfl rfl Ω rfl) (TOk.xP 3 [] Ψ (TOk.t (isBoxE fun _ => isBoxS Θ (k := 4) Δ) (TOk.t (isBoxE fun _ => isBoxS Θ (k := 4) Δ) (TOk.t (isBoxE fun _ => isBoxS Θ (k := 4) Δ) TOk.d)))) ?_
       refine eaB ?_; intro y112
       refine dfB 5 Ψ ?_
       refine doGB rfl rfl rfl rfl rfl (o_call (is := []) call10 (c_rSame p p y112 yp hp hp) rfl rfl Ω rfl) (TOk.xP 3 [] Ψ (TOk.xP 5 [] Ψ (TOk.t (isBoxE fun _ => isBoxS Θ (k := 4) Δ) (TOk.t (isBoxE fun _ => isBoxS Θ (k := 4) Δ) TOk.d)))) ?_
       refine eaB ?_; intro x114
       refine fixB (congrArg Value.bool (decide_eq_true rfl)) ?_
       refine t_ 6 2 ?_
       refine tkB 8 rfl Ψ Υ (gyes rfl rfl rfl rfl) (TTat (List.Mem.tail _ (List.Mem.tail _ (List.Mem.head _)))) (p_lda isAgg31 sizeOf31 rfl rfl) rfl ?_
       refine tkB 10 rfl Ψ Υ (gyes rfl rfl rfl rfl) (TTat (List.Mem.tail _ (List.Mem.tail _ (List.Mem.tail _ (List.Mem.head _))))) (p_lda isAgg25 sizeOf25 rfl rfl) rfl ?_
       refine dfB 9 Ψ ?_
       refine doGB rfl rfl rfl rfl rfl (o_call (is := []) call11 (c_Old7 q zy hq) rfl rfl Ω rfl) (TOk.xP 3 [] Ψ (TOk.xP 5 [] Ψ (TOk.xP 9 [] Ψ (TOk.t (isBoxE fun _ => isBoxS Θ (k := 4) Δ) TOk.d)))) ?_
       refine eaB ?_; intro y118
       refine dfB 11 Ψ ?_
       refine doGB rfl rfl rfl rfl rfl (o_call (is := []) call10 (c_rSame q q y118 yq hq hq) rfl rfl Ω rfl) (TOk.xP 3 [] Ψ (TOk.xP 5 [] Ψ (TOk.xP 9 [] Ψ (TOk.xP 11 [] Ψ TOk.d)))) ?_
       refine eaB ?_; intro x120
       refine fixB (congrArg Value.bool (decide_eq_true rfl)) ?_
       refine t_ 12 11 ?_
       refine dnB Ψ ?_
       refine k_ 3 ?_
       exact rR [] ()
end Go.Proofs.YtmikcpaaomamiaaGreatDoor.X
end
section
set_option linter.unusedVariables false
set_option linter.unusedSimpArgs false
namespace Go.Proofs.YtmikcpaaomamiaaGreatDoor.X
open Go Go.RowKit Go.Proofs Go.Sx Go.Joins Go.ChangeShapes Go.WideShapes Go.Deep
section
variable {H : Type} {enc : TypeId × Value → H} {P : Program} {w : World}
structure PTys (P : Program) (t : TypeId) : Prop where
  ex : ∃ (f0 f1 f2 f3 : Field) (ei tp : TypeId) (g0 g1 g2 g3 g4 g5 : Field) (es : TypeId),
    P.underlying t = some (.struct #[f0, f1, f2, f3]) ∧ oneCellFields P #[f0, f1, f2, f3] = true ∧ P.cellsOf t = 4 ∧
    P.underlying f0.type = some (.int .i64) ∧ P.underlying f1.type = some .string ∧ P.underlying f2.type = some (.slice ei) ∧ P.underlying ei = some (.int .i64) ∧ P.cellsOf ei = 1 ∧ P.underlying f3.type = some (.slice tp) ∧
    P.underlying tp = some (.struct #[g0, g1, g2, g3, g4, g5]) ∧ oneCellFields P #[g0, g1, g2, g3, g4, g5] = true ∧ P.cellsOf tp = 6 ∧
    P.underlying g0.type = some (.int .i64) ∧ P.underlying g1.type = some .string ∧ P.underlying g2.type = some .string ∧ P.underlying g3.type = some (.int .i64) ∧ P.underlying g4.type = some (.slice es) ∧ P.underlying g5.type = some (.slice es) ∧ P.underlying es = some .string ∧ P.cellsOf es = 1
theorem open_patch_at {t : TypeId} {cs : List Value} {fuel : Nat} {x : DataW H × List MemPlace} (B : BulkI H) (hT : PTys P t) (hf : DataW.trod enc P w 0 (fun _ => true) true fuel t cs = some x) :
    ∃ (z : Patch) (y : Rp.Lay Patch), cs = Rp.enc z y ∧ (∀ a ∈ Rp.asn z y, a.p (fun _ => False) w) ∧ z.many + 1 ≤ B.one x.1 := by
  obtain ⟨f0, f1, f2, f3, ei, tp, u0, u1, u2, u3, u4, u5, es, hs, hone, hC, h0, h1, h2, hei, hci, h3, htp, hone2, hC2, k0, k1, k2, k3, k4, k5, hes, hces⟩ := hT.ex
  obtain ⟨xs, n, _, hx, hsz, hlen, hg⟩ := DataW.trod_struct hs hf
  match cs, hsz.trans hC with
  | [c0, c1, c2, c3], _ =>
    obtain ⟨o0, q0⟩ := hone_of hone 0 f0 rfl
    obtain ⟨o1, q1⟩ := hone_of hone 1 f1 rfl
    obtain ⟨o2, q2⟩ := hone_of hone 2 f2 rfl
    obtain ⟨o3, q3⟩ := hone_of hone 3 f3 rfl
    match xs, hlen with
    | [y0, y1, y2, y3], _ =>
      subst hx
      have g0 : DataW.trod enc P w 0 (fun _ => true) true n f0.type [c0] = some y0 := by simpa [o0, q0] using hg 0 f0 rfl
      have g1 : DataW.trod enc P w 0 (fun _ => true) true n f1.type [c1] = some y1 := by simpa [o1, q1] using hg 1 f1 rfl
      have g2 : DataW.trod enc P w 0 (fun _ => true) true n f2.type [c2] = some y2 := by simpa [o2, q2] using hg 2 f2 rfl
      have g3 : DataW.trod enc P w 0 (fun _ => true) true n f3.type [c3] = some y3 := by simpa [o3, q3] using hg 3 f3 rfl
      obtain ⟨z0, r0, e0, _⟩ := DataW.trod_int h0 g0
      obtain ⟨s1, r1, e1, _⟩ := DataW.trod_string h1 g1
      obtain ⟨l2, v2, r2, a2, b2⟩ := open_ints1 B h2 hei hci g2
      obtain ⟨l3, v3, r3, a3, b3, c3, _⟩ := open_slice (α := Prim) B.toBulk h3 hC2 (by decide) Prim.many (fun n cs x hx => open_prim_at B.toBulk htp hone2 hC2 k0 k1 k2 k3 k4 k5 hes hces hx) g3
      cases r0; cases r1; subst r2; subst r3
      refine ⟨⟨z0, s1, l2, l3⟩, (v2, v3), rfl, ?_, ?_⟩
      · intro a ha
        have ha' : a = slA v2.1 l2 ∨ a = slA v3.1 l3 ∨ a = capA v3.2 l3.length := by simpa [Rp.asn] using ha
        rcases ha' with rfl | rfl | rfl
        · exact a2
        · exact a3
        · exact c3
      · simp only [List.map_cons, List.map_nil]
        rw [B.agg]
        simp only [B.cons, B.nil]
        rw [e0, e1]
        simp only [B.str, B.int]
        have e7 : s1.data.toList.length = s1.size := by rw [Array.length_toList]; rfl
        have m3 : Sx.many l3 ≤ B.one y3.1 := b3
        simp only [Patch.many]
        omega
theorem open_patch {r : Reach} {b0 : Nat} {t : TypeId} {v : Value} {d : DataW H} {p : List MemPlace} (B : BulkI H) (hT : PTys P t) (hv : Value.okWide P w r b0 t v) (h : DataW.Trod enc P w 0 (fun _ => true) true t v d p) :
    ∃ (x : Patch) (y : Rp.Lay Patch), v = sv x y ∧ (∀ a ∈ Rp.asn x y, a.p (fun _ => False) w) ∧ x.many + 1 ≤ B.one d := by
  obtain ⟨f0, f1, f2, f3, ei, tp, u0, u1, u2, u3, u4, u5, es, hs, _⟩ := hT.ex
  obtain ⟨cs, rfl, hsz⟩ := okWide_struct hs hv
  obtain ⟨fuel, hf⟩ := h
  obtain ⟨z, y, e1, e2, e3⟩ := open_patch_at B hT hf
  refine ⟨z, y, ?_, e2, e3⟩
  have e4 : cs.toList = Rp.enc z y := e1
  show Value.agg cs = Value.agg (Rp.enc z y).toArray
  rw [← e4]
theorem pfit_many {p : Patch} (h : p.many ≤ 2000000) : p.fit := by
  unfold Patch.many at h
  have h1 : ∀ x ∈ p.l, x.many ≤ Sx.many p.l := by
    intro x hx
    unfold Sx.many
    have : x.many ≤ (p.l.map Prim.many).sum := by
      generalize p.l = l at hx
      induction l with
      | nil => cases hx
      | cons y l ih =>
        simp only [List.map_cons, List.sum_cons]
        rcases List.mem_cons.1 hx with rfl | hx
        · omega
        · have := ih hx; omega
    omega
  have h2 := many_len p.l
  exact ⟨by omega, by omega, by omega, fun x hx => by
    have := h1 x hx
    have hm : x.many ≤ 2000000 := by omega
    unfold Prim.many at hm
    have hs : ∀ (l : List ByteArray) (s : ByteArray), s ∈ l → s.size ≤ sizes l := by
      intro l s hs
      unfold sizes
      induction l with
      | nil => cases hs
      | cons y l ih =>
        simp only [List.map_cons, List.sum_cons]
        rcases List.mem_cons.1 hs with rfl | hs
        · omega
        · have := ih hs; omega
    exact ⟨by omega, by omega, by omega, by omega, fun s h => by have := hs _ _ h; omega, fun s h => by have := hs _ _ h; omega⟩⟩
end
end Go.Proofs.YtmikcpaaomamiaaGreatDoor.X
end
