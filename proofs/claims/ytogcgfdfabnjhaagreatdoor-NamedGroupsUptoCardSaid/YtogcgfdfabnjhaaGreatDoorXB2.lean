/- OWN WORK: a part of the proof of a law of the seat YtogcgfdfabnjhaaGreatDoor: the walk through functions of the program. -/
import Derived.Test.YtogcgfdfabnjhaaGreatDoorProg
import Derived.Test.YtogcgfdfabnjhaaGreatDoorXB1
section
set_option linter.unusedVariables false
set_option linter.unusedSimpArgs false
namespace Go.Proofs.YtogcgfdfabnjhaaGreatDoor.X
open Go Go.RowKit Go.Proofs Go.Sx
attribute [local irreducible] slA isA box row

theorem depsOk_drop {id last : Int} {l : List Int} {k : Nat} (hk : k < l.length) : depsOk id last (l.drop k) = (!(decide (l[k] ≤ last) || decide (1000000000 < l[k]) || decide (l[k] = id)) && depsOk id l[k] (l.drop (k + 1))) := by
 rw [List.drop_eq_getElem_cons hk, depsOk]
theorem dec_patch (p q : Patch) : (decide (p.id = q.id) && decide (p.note = q.note) && decide (p.deps = q.deps) && decide (p.l = q.l)) = decide (p = q) := by
 rw [Bool.eq_iff_iff]
 cases p; cases q
 simp [and_assoc]
theorem right_f1 {p : Patch} (h : (decide (p.id < 1) || decide (1000000000 < p.id) || !lineOk p.note) = true) : p.right = false := by
 unfold Patch.right; cases h1 : lineOk p.note <;> simp [h1] at h ⊢ <;> omega
theorem right_f2 {p : Patch} (h : 8 < p.deps.length) : p.right = false := by
 unfold Patch.right; rw [show decide (p.deps.length ≤ 8) = false from decide_eq_false (by omega)]; simp
theorem right_f3 {p : Patch} (h : depsOk p.id 0 p.deps = false) : p.right = false := by
 unfold Patch.right; rw [h]; simp
theorem right_t {p : Patch} (h : (decide (p.id < 1) || decide (1000000000 < p.id) || !lineOk p.note) = false) (h2 : p.deps.length ≤ 8) (h3 : depsOk p.id 0 p.deps = true) :
  p.right = (decide ((1 : Int) ≤ (p.l.length : Int)) && decide ((p.l.length : Int) ≤ 24) && p.l.all Prim.right) := by
 unfold Patch.right
 simp only [Bool.or_eq_false_iff, decide_eq_false_iff_not, Bool.not_eq_false'] at h
 rw [show decide (1 ≤ p.id) = true from decide_eq_true (by omega), show decide (p.id ≤ 1000000000) = true from decide_eq_true (by omega), h.2, h3, show decide (p.deps.length ≤ 8) = true from decide_eq_true h2]
 simp only [Bool.and_true, Bool.true_and]
 congr 2 <;> (rw [decide_eq_decide]; omega)
theorem right_g1 {p : Patch} (h : (decide (p.id < 1) || decide (1000000000 < p.id) || !lineOk p.note || decide ((8 : Int) < (p.deps.length : Int)) || decide ((p.l.length : Int) < 1) || decide ((24 : Int) < (p.l.length : Int))) = true) : p.right = false := by
 unfold Patch.right
 cases h1 : lineOk p.note
 ·
  simp
 ·
  rw [Bool.eq_false_iff]
  intro h2
  simp [h1] at h h2
  omega
theorem right_g2 {p : Patch} (h : (decide (p.id < 1) || decide (1000000000 < p.id) || !lineOk p.note || decide ((8 : Int) < (p.deps.length : Int)) || decide ((p.l.length : Int) < 1) || decide ((24 : Int) < (p.l.length : Int))) = false) (h3 : depsOk p.id 0 p.deps = true) : p.right = p.l.all Prim.right := by
 unfold Patch.right
 simp only [Bool.or_eq_false_iff, decide_eq_false_iff_not, Bool.not_eq_false'] at h
 obtain ⟨⟨⟨⟨⟨a1, a2⟩, a3⟩, a4⟩, a5⟩, a6⟩ := h
 rw [show decide (1 ≤ p.id) = true from decide_eq_true (by omega), show decide (p.id ≤ 1000000000) = true from decide_eq_true (by omega), a3, h3, show decide (p.deps.length ≤ 8) = true from decide_eq_true (by omega), show decide (1 ≤ p.l.length) = true from decide_eq_true (by omega), show decide (p.l.length ≤ 24) = true from decide_eq_true (by omega)]
 simp
theorem rsame_t {p q : Patch} (h : (!decide (p.id = q.id) || !decide (p.note = q.note) || !decide ((p.deps.length : Int) = (q.deps.length : Int))) = true) : ¬ p = q := by
 rintro rfl; simp at h
theorem rsame_f {p q : Patch} (h : (!decide (p.id = q.id) || !decide (p.note = q.note) || !decide ((p.deps.length : Int) = (q.deps.length : Int))) = false) : p.id = q.id ∧ p.note = q.note ∧ p.deps.length = q.deps.length := by
 simp at h
 exact ⟨h.1.1, h.1.2, by omega⟩


set_option maxRecDepth 100000 in
theorem c_nRight1 (nn last : Int) (p : Patch) (y : Rp.Lay Patch) (bl bp : Nat) : Con Tryz.prog 34 [.int .i64 nn, .pointer (some ⟨bl, 0, none⟩), .pointer (some ⟨bp, 0, none⟩)] [box bl 3 [.int .i64 last], box bp 31 (Rp.enc p y)] [] Unit (fun _ => .bool (decide (nn ≤ last) || decide (1000000000 < nn) || decide (nn = p.id))) (fun _ => [box bl 3 [.int .i64 nn], box bp 31 (Rp.enc p y)]) (fun _ => []) := by
 refine con Tryz.func34 rfl Tryz.ntmps34 rfl ?_
 intro M0 F0 w0
 refine cs ?_
 refine cr ?_
 refine ls (op (p_asg rfl) rfl) ?_
 refine ln ?_
 refine nthen ?_
 refine cs ?_
 refine cr ?_
 refine ls (op (p_move rfl) rfl) ?_
 refine ls (o_ld Tryz.isAgg3 rfl (by repeat (first | exact At.z | apply At.s)) (by repeat (first | exact At.z | apply At.s)) rfl) ?_
 refine ls (op (p_icmp rfl rfl rfl) rfl) ?_
 refine ls (op (p_asg rfl) rfl) ?_
 refine ln ?_
 refine nthen ?_
 refine cs ?_
 refine cr ?_
 refine ls (op (p_move rfl) rfl) ?_
 refine ls (o_st rfl Tryz.sizeOf3 rfl rfl rfl rfl rfl (by repeat (first | exact At.z | apply At.s)) (by repeat (first | exact Put.d | apply Put.t | apply Put.s)) (by repeat (first | exact SetAt.z | apply SetAt.s))) ?_
 refine ln ?_
 refine nthen ?_
 refine cs ?_
 refine cr ?_
 refine ls (op (p_move rfl) rfl) ?_
 refine ls (op (p_move rfl) rfl) ?_
 refine orX 3 11 14 rfl (subσ.cons (t := 0) rfl (subσ.cons (t := 1) rfl (subσ.cons (t := 2) rfl (subσ.cons (t := 4) rfl (subσ.cons (t := 6) rfl (subσ.cons (t := 7) rfl (subσ.cons (t := 8) rfl (subσ.cons (t := 9) rfl (subσ.nil _))))))))) ?_ ?_
 ·
  intro h11
  refine lskip rfl rfl rfl rfl rfl ?_
  refine lskip rfl rfl rfl rfl rfl ?_
  refine ls (op (p_pickt rfl rfl) rfl) ?_
  refine ln (nmid (wk0 (by repeat (first | exact subσ.nil _ | refine subσ.cons rfl ?_)) (by repeat (first | exact Sub.d | (refine Sub.s ?_ ?_; (repeat (first | exact In.z | apply In.s))) | (refine Sub.suf ?_; (repeat (first | exact Suf.z | apply Suf.s)))))))
 apply exI
 ·
  intro h11
  refine lwant rfl rfl rfl rfl (op (p_move rfl) rfl) ?_
  refine lwant rfl rfl rfl rfl (op (p_icmp rfl rfl rfl) rfl) ?_
  refine ls (op (p_pickf rfl rfl) rfl) ?_
  refine ln (nmid (wk0 (by repeat (first | exact subσ.nil _ | refine subσ.cons rfl ?_)) (by repeat (first | exact Sub.d | (refine Sub.s ?_ ?_; (repeat (first | exact In.z | apply In.s))) | (refine Sub.suf ?_; (repeat (first | exact Suf.z | apply Suf.s)))))))
 ·
  refine ls (op (p_move rfl) rfl) ?_
  refine orX 5 15 20 rfl (subσ.cons (t := 0) rfl (subσ.cons (t := 1) rfl (subσ.cons (t := 4) rfl (subσ.cons (t := 6) rfl (subσ.cons (t := 7) rfl (subσ.cons (t := 8) rfl (subσ.cons (t := 9) rfl (subσ.nil _)))))))) ?_ ?_
  ·
   intro h15
   refine lskip rfl rfl rfl rfl rfl ?_
   refine lskip rfl rfl rfl rfl rfl ?_
   refine lskip rfl rfl rfl rfl rfl ?_
   refine lskip rfl rfl rfl rfl rfl ?_
   refine ls (op (p_pickt rfl rfl) rfl) ?_
   refine ln (nmid (wk0 (by repeat (first | exact subσ.nil _ | refine subσ.cons rfl ?_)) (by repeat (first | exact Sub.d | (refine Sub.s ?_ ?_; (repeat (first | exact In.z | apply In.s))) | (refine Sub.suf ?_; (repeat (first | exact Suf.z | apply Suf.s)))))))
  apply exI
  ·
   intro h15
   refine lwant rfl rfl rfl rfl (op (p_move rfl) rfl) ?_
   refine lwant rfl rfl rfl rfl (op (p_fa fa31_0 rfl) rfl) ?_
   refine lwant rfl rfl rfl rfl (o_ld Tryz.isAgg3 rfl (by repeat (first | exact At.z | apply At.s)) (by repeat (first | exact At.z | apply At.s)) rfl) ?_
   refine lwant rfl rfl rfl rfl (op (p_icmp rfl rfl rfl) rfl) ?_
   refine ls (op (p_pickf rfl rfl) rfl) ?_
   refine ln (nmid (wk0 (by repeat (first | exact subσ.nil _ | refine subσ.cons rfl ?_)) (by repeat (first | exact Sub.d | (refine Sub.s ?_ ?_; (repeat (first | exact In.z | apply In.s))) | (refine Sub.suf ?_; (repeat (first | exact Suf.z | apply Suf.s)))))))
  ·
   refine ls (op (p_asg rfl) rfl) ?_
   refine ln ?_
   refine nthen ?_
   refine cret ?_
   refine xret (fun _ _ h => h) ?_
   refine rret (is := [0, 0]) () (Or.inl rfl) (Res.t rfl Res.d) (rfl) rfl (by repeat (first | exact Sub.d | (refine Sub.s ?_ ?_; (repeat (first | exact In.z | apply In.s))) | (refine Sub.suf ?_; (repeat (first | exact Suf.z | apply Suf.s)))))

set_option maxRecDepth 100000 in
theorem c_IndexFuncI (l : List Int) (A : Option Addr) (c : Nat) (hl : l.length ≤ 2000000) (last : Int) (p : Patch) (y : Rp.Lay Patch) (bl bp : Nat) : Con Tryz.prog 60 [.slice A l.length c, .func (.func 34) #[] #[.pointer (some ⟨bl, 0, none⟩), .pointer (some ⟨bp, 0, none⟩)]] [box bl 3 [.int .i64 last], box bp 31 (Rp.enc p y)] [slA A l] {r : Int × Int // -1 ≤ r.1 ∧ r.1 ≤ 2000000 ∧ (0 ≤ r.1 ↔ depsOk p.id last l = false)} (fun r => .int .i64 r.1.1) (fun r => [box bl 3 [.int .i64 r.1.2], box bp 31 (Rp.enc p y)]) (fun _ => []) := by
 refine con Tryz.func60 rfl Tryz.ntmps60 rfl ?_
 intro M0 F0 w0
 refine cs ?_
 refine cr ?_
 refine ls (op (p_asg rfl) rfl) ?_
 refine ln ?_
 refine nthen ?_
 refine cs ?_
 refine cs ?_
 refine cr ?_
 refine ls (op (p_move rfl) rfl) ?_
 refine ls (op (p_lenl rfl Tryz.underlying22) rfl) ?_
 refine ls (op (p_move rfl) rfl) ?_
 refine ln ?_
 refine nthen ?_
 refine cb ?_
 refine cl (ι := {q : Nat × Int // q.1 ≤ l.length ∧ depsOk p.id last l = depsOk p.id q.2 (l.drop q.1)}) (fun i => St M0 F0 w0 19 [(0, .slice A l.length c), (1, .func (.func 34) #[] #[.pointer (some ⟨bl, 0, none⟩), .pointer (some ⟨bp, 0, none⟩)]), (7, .int .i64 (l.length : Int)), (8, .int .i64 (i.1.1 : Int))] [box bl 3 [.int .i64 i.1.2], box bp 31 (Rp.enc p y)] [slA A l]) (fun i => l.length - i.1.1) ⟨(0, last), by simp⟩ (wk0 (by repeat (first | exact subσ.nil _ | refine subσ.cons rfl ?_)) (by repeat (first | exact Sub.d | (refine Sub.s ?_ ?_; (repeat (first | exact In.z | apply In.s))) | (refine Sub.suf ?_; (repeat (first | exact Suf.z | apply Suf.s)))))) ?_
 rintro ⟨⟨k, la⟩, hk, hkk⟩
 refine cmono (S' := St M0 F0 w0 19 [(0, .slice A l.length c), (1, .func (.func 34) #[] #[.pointer (some ⟨bl, 0, none⟩), .pointer (some ⟨bp, 0, none⟩)]), (7, .int .i64 (l.length : Int)), (8, .int .i64 (k : Int))] [box bl 3 [.int .i64 la], box bp 31 (Rp.enc p y)] [slA A l]) (fun _ _ h => h) ?_
 refine cs ?_
 refine cr ?_
 refine ls (op (p_icmp rfl rfl rfl) rfl) ?_
 refine ln ?_
 refine nthen ?_
 refine cs ?_
 refine cc rfl ?_ ?_
 ·
  intro h9
  dsimp only at hk hkk
  try simp only [decide_eq_true_eq, decide_eq_false_iff_not, Bool.not_eq_true', Bool.not_eq_false', Int.not_lt, Int.not_le, ge_iff_le, Bool.not_true, Bool.not_false] at h9
  have hk1 : k < l.length := by omega
  rw [depsOk_drop hk1] at hkk
  refine cskip ?_
  refine nthen ?_
  refine cs ?_
  refine cb ?_
  refine cs ?_
  refine cr ?_
  refine ls (op (p_move rfl) rfl) ?_
  refine ls (op (p_asg rfl) rfl) ?_
  refine ln ?_
  refine nthen ?_
  refine cs ?_
  refine elC (by repeat (first | exact At.z | apply At.s)) k (List.getElem?_eq_getElem (l := l) hk1) ?_; rintro zbp zop zyp hAp
  refine cr ?_
  refine ls (op (p_move rfl) rfl) ?_
  refine ls (op (p_move rfl) rfl) ?_
  refine ls (op (p_move rfl) rfl) ?_
  refine ls (op (p_ia k hAp hk1 rfl Tryz.underlying22 Tryz.sizeOf3 rfl rfl) rfl) ?_
  refine ls (o_ldi Tryz.isAgg3 rfl (by repeat (first | exact At.z | apply At.s)) 0 rfl (by repeat (first | exact Cut.d | apply Cut.t | apply Cut.s)) rfl) ?_
  refine ls (o_callv (is := [0, 0]) rfl Tryz.call34 (c_nRight1 l[k] la p y bl bp) rfl rfl rfl (by repeat (first | exact Sub.d | (refine Sub.s ?_ ?_; (repeat (first | exact In.z | apply In.s))) | (refine Sub.suf ?_; (repeat (first | exact Suf.z | apply Suf.s))))) rfl) ?_
  refine le ?_; intro x16
  refine ln ?_
  refine nthen ?_
  refine cc rfl ?_ ?_
  ·
   intro h16
   rw [h16] at hkk
   refine cs ?_
   refine cr ?_
   refine ls (op (p_move rfl) rfl) ?_
   refine ls (op (p_asg rfl) rfl) ?_
   refine ln ?_
   refine nthen ?_
   refine cret ?_
   refine xret (fun _ _ h => h) ?_
   refine rret (is := [0, 0]) ⟨((k : Int), l[k]), by dsimp only; omega, by dsimp only; omega, by dsimp only; exact ⟨fun _ => by simpa using hkk, fun _ => by omega⟩⟩ (Or.inl rfl) (Res.t rfl Res.d) (rfl) rfl (by repeat (first | exact Sub.d | (refine Sub.s ?_ ?_; (repeat (first | exact In.z | apply In.s))) | (refine Sub.suf ?_; (repeat (first | exact Suf.z | apply Suf.s)))))
  ·
   intro h16
   rw [h16] at hkk
   refine cskip ?_
   refine nblock ?_
   refine nthen ?_
   refine cr ?_
   refine ls (op (p_add rfl rfl (by omega)) rfl) ?_
   refine ls (op (p_move rfl) rfl) ?_
   refine ln ?_
   refine nnext ⟨(k + 1, l[k]), hk1, by simpa using hkk⟩ (by dsimp only; omega) (wk0 (by repeat (first | exact subσ.nil _ | refine subσ.cons rfl ?_)) (by repeat (first | exact Sub.d | (refine Sub.s ?_ ?_; (repeat (first | exact In.z | apply In.s))) | (refine Sub.suf ?_; (repeat (first | exact Suf.z | apply Suf.s))))))
 ·
  intro h9
  dsimp only at hk hkk
  try simp only [decide_eq_true_eq, decide_eq_false_iff_not, Bool.not_eq_true', Bool.not_eq_false', Int.not_lt, Int.not_le, ge_iff_le, Bool.not_true, Bool.not_false] at h9
  refine cexit ?_
  refine xthen ?_
  refine xthen ?_
  refine xblock ?_
  refine nthen ?_
  refine cs ?_
  refine cr ?_
  refine ls (op (p_asg rfl) rfl) ?_
  refine ln ?_
  refine nthen ?_
  refine cret ?_
  refine xret (fun _ _ h => h) ?_
  refine rret (is := [0, 0]) ⟨(-1, la), by dsimp only; omega, by dsimp only; omega, by dsimp only; rw [hkk, List.drop_eq_nil_of_le (by omega)]; simp [depsOk]⟩ (Or.inl rfl) (Res.t rfl Res.d) (rfl) rfl (by repeat (first | exact Sub.d | (refine Sub.s ?_ ?_; (repeat (first | exact In.z | apply In.s))) | (refine Sub.suf ?_; (repeat (first | exact Suf.z | apply Suf.s)))))

set_option maxRecDepth 100000 in
theorem c_ContainsFuncI (l : List Int) (A : Option Addr) (c : Nat) (hl : l.length ≤ 2000000) (last : Int) (p : Patch) (y : Rp.Lay Patch) (bl bp : Nat) : Con Tryz.prog 36 [.slice A l.length c, .func (.func 34) #[] #[.pointer (some ⟨bl, 0, none⟩), .pointer (some ⟨bp, 0, none⟩)]] [box bl 3 [.int .i64 last], box bp 31 (Rp.enc p y)] [slA A l] Int (fun _ => .bool !(depsOk p.id last l)) (fun r => [box bl 3 [.int .i64 r], box bp 31 (Rp.enc p y)]) (fun _ => []) := by
 refine con Tryz.func36 rfl Tryz.ntmps36 rfl ?_
 intro M0 F0 w0
 refine cs ?_
 refine cr ?_
 refine ls (op (p_asg rfl) rfl) ?_
 refine ln ?_
 refine nthen ?_
 refine cs ?_
 refine cr ?_
 refine ls (op (p_move rfl) rfl) ?_
 refine ls (op (p_move rfl) rfl) ?_
 refine ls (o_call (is := [0, 0]) Tryz.call60 (c_IndexFuncI l A c hl last p y bl bp) rfl rfl (by repeat (first | exact Sub.d | (refine Sub.s ?_ ?_; (repeat (first | exact In.z | apply In.s))) | (refine Sub.suf ?_; (repeat (first | exact Suf.z | apply Suf.s))))) rfl) ?_
 refine le ?_; rintro ⟨⟨r, rl⟩, hr1, hr2, hr3⟩
 refine ls (op (p_icmp rfl rfl rfl) rfl) ?_
 refine ls (op (p_asg rfl) rfl) ?_
 refine ln ?_
 refine nthen ?_
 refine cret ?_
 refine xret (fun _ _ h => h) ?_
 refine rret (is := [0, 0]) rl (Or.inl rfl) (Res.t rfl Res.d) ?_ rfl (by repeat (first | exact Sub.d | (refine Sub.s ?_ ?_; (repeat (first | exact In.z | apply In.s))) | (refine Sub.suf ?_; (repeat (first | exact Suf.z | apply Suf.s)))))
 dsimp only at hr1 hr2 hr3; simp [packV]; rw [Bool.eq_iff_iff]; simp [hr3]

set_option maxRecDepth 100000 in
theorem c_nRight (p : Patch) (y : Rp.Lay Patch) (hp : p.fit) : Con Tryz.prog 11 [sv p y] [] [slA y.1.1 p.deps, slA y.2.1 p.l] Unit (fun _ => .bool (p.right)) (fun _ => []) (fun _ => []) := by
 refine con Tryz.func11 rfl Tryz.ntmps11 rfl ?_
 intro M0 F0 w0
 refine cs ?_
 refine cr ?_
 refine ls (o_box rfl rfl rfl) ?_
 refine le ?_; intro b1
 refine ls (op (p_asg rfl) rfl) ?_
 refine ln ?_
 refine nthen ?_
 refine cs ?_
 refine cr ?_
 refine ls (o_alloc Tryz.zeroValue3 rfl rfl) ?_
 refine le ?_; intro b3
 refine ls (o_st rfl Tryz.sizeOf3 rfl rfl rfl rfl rfl (by repeat (first | exact At.z | apply At.s)) (by repeat (first | exact Put.d | apply Put.t | apply Put.s)) (by repeat (first | exact SetAt.z | apply SetAt.s))) ?_
 refine ln ?_
 refine nthen ?_
 refine cs ?_
 refine cr ?_
 refine ls (op (p_mkf rfl) rfl) ?_
 refine ls (op (p_asg rfl) rfl) ?_
 refine ln ?_
 refine nthen ?_
 refine cs ?_
 refine cb ?_
 refine cs ?_
 refine cr ?_
 refine ls (op (p_fa fa31_0 rfl) rfl) ?_
 refine ls (o_ld Tryz.isAgg3 rfl (by repeat (first | exact At.z | apply At.s)) (by repeat (first | exact At.z | apply At.s)) rfl) ?_
 refine ls (op (p_icmp rfl rfl rfl) rfl) ?_
 refine ls (op (p_move rfl) rfl) ?_
 refine orX 4 10 14 rfl (subσ.cons (t := 0) rfl (subσ.cons (t := 1) rfl (subσ.cons (t := 2) rfl (subσ.cons (t := 3) rfl (subσ.cons (t := 5) rfl (subσ.cons (t := 4) rfl (subσ.nil _))))))) ?_ ?_
 ·
  intro h10
  refine lskip rfl rfl rfl rfl rfl ?_
  refine lskip rfl rfl rfl rfl rfl ?_
  refine lskip rfl rfl rfl rfl rfl ?_
  refine ls (op (p_pickt rfl rfl) rfl) ?_
  refine ln (nmid (wk0 (by repeat (first | exact subσ.nil _ | refine subσ.cons rfl ?_)) (by repeat (first | exact Sub.d | (refine Sub.s ?_ ?_; (repeat (first | exact In.z | apply In.s))) | (refine Sub.suf ?_; (repeat (first | exact Suf.z | apply Suf.s)))))))
 apply exI
 ·
  intro h10
  refine lwant rfl rfl rfl rfl (op (p_fa fa31_0 rfl) rfl) ?_
  refine lwant rfl rfl rfl rfl (o_ld Tryz.isAgg3 rfl (by repeat (first | exact At.z | apply At.s)) (by repeat (first | exact At.z | apply At.s)) rfl) ?_
  refine lwant rfl rfl rfl rfl (op (p_icmp rfl rfl rfl) rfl) ?_
  refine ls (op (p_pickf rfl rfl) rfl) ?_
  refine ln (nmid (wk0 (by repeat (first | exact subσ.nil _ | refine subσ.cons rfl ?_)) (by repeat (first | exact Sub.d | (refine Sub.s ?_ ?_; (repeat (first | exact In.z | apply In.s))) | (refine Sub.suf ?_; (repeat (first | exact Suf.z | apply Suf.s)))))))
 ·
  refine ls (op (p_move rfl) rfl) ?_
  refine orX 5 15 20 rfl (subσ.cons (t := 0) rfl (subσ.cons (t := 1) rfl (subσ.cons (t := 2) rfl (subσ.cons (t := 3) rfl (subσ.cons (t := 5) rfl (subσ.cons (t := 4) rfl (subσ.nil _))))))) ?_ ?_
  ·
   intro h15
   refine lskip rfl rfl rfl rfl rfl ?_
   refine lskip rfl rfl rfl rfl rfl ?_
   refine lskip rfl rfl rfl rfl rfl ?_
   refine lskip rfl rfl rfl rfl rfl ?_
   refine ls (op (p_pickt rfl rfl) rfl) ?_
   refine ln (nmid (wk0 (by repeat (first | exact subσ.nil _ | refine subσ.cons rfl ?_)) (by repeat (first | exact Sub.d | (refine Sub.s ?_ ?_; (repeat (first | exact In.z | apply In.s))) | (refine Sub.suf ?_; (repeat (first | exact Suf.z | apply Suf.s)))))))
  apply exI
  ·
   intro h15
   refine lwant rfl rfl rfl rfl (op (p_fa fa31_1 rfl) rfl) ?_
   refine lwant rfl rfl rfl rfl (o_ld Tryz.isAgg9 rfl (by repeat (first | exact At.z | apply At.s)) (by repeat (first | exact At.z | apply At.s)) rfl) ?_
   refine lwant rfl rfl rfl rfl (o_call (is := []) Tryz.call35 (c_lineRight p.note) rfl rfl (by repeat (first | exact Sub.d | (refine Sub.s ?_ ?_; (repeat (first | exact In.z | apply In.s))) | (refine Sub.suf ?_; (repeat (first | exact Suf.z | apply Suf.s))))) rfl) ?_
   refine le ?_; intro x18
   refine lwant rfl rfl rfl rfl (op (p_not rfl) rfl) ?_
   refine ls (op (p_pickf rfl rfl) rfl) ?_
   refine ln (nmid (wk0 (by repeat (first | exact subσ.nil _ | refine subσ.cons rfl ?_)) (by repeat (first | exact Sub.d | (refine Sub.s ?_ ?_; (repeat (first | exact In.z | apply In.s))) | (refine Sub.suf ?_; (repeat (first | exact Suf.z | apply Suf.s)))))))
  ·
   refine ls (op (p_asg rfl) rfl) ?_
   refine ln ?_
   refine nthen ?_
   refine cc rfl ?_ ?_
   ·
    intro h6
    try simp only [decide_eq_true_eq, decide_eq_false_iff_not, Bool.not_eq_true', Bool.not_eq_false', Int.not_lt, Int.not_le, ge_iff_le, Bool.not_true, Bool.not_false] at h6
    refine cs ?_
    refine cr ?_
    refine ls (op (p_asg rfl) rfl) ?_
    refine ln ?_
    refine nthen ?_
    refine cret ?_
    refine xret (fun _ _ h => h) ?_
    refine rret (is := []) () (Or.inl rfl) (Res.t rfl Res.d) ?_ rfl (by repeat (first | exact Sub.d | (refine Sub.s ?_ ?_; (repeat (first | exact In.z | apply In.s))) | (refine Sub.suf ?_; (repeat (first | exact Suf.z | apply Suf.s)))))
    simp only [packV]; rw [right_f1 h6]
   ·
    intro h6
    try simp only [decide_eq_true_eq, decide_eq_false_iff_not, Bool.not_eq_true', Bool.not_eq_false', Int.not_lt, Int.not_le, ge_iff_le, Bool.not_true, Bool.not_false] at h6
    refine cs ?_
    have hdl := hp.dl
    refine cr ?_
    refine ls (op (p_fa fa31_2 rfl) rfl) ?_
    refine ls (o_ld Tryz.isAgg22 rfl (by repeat (first | exact At.z | apply At.s)) (by repeat (first | exact At.z | apply At.s)) rfl) ?_
    refine ls (op (p_lenl rfl Tryz.underlying22) rfl) ?_
    refine ls (op (p_icmp rfl rfl rfl) rfl) ?_
    refine ls (op (p_move rfl) rfl) ?_
    refine splitL 26 rfl ?_ ?_
    ·
     intro h26
     refine lskip rfl rfl rfl rfl rfl ?_
     refine lskip rfl rfl rfl rfl rfl ?_
     refine lskip rfl rfl rfl rfl rfl ?_
     refine lskip rfl rfl rfl rfl rfl ?_
     refine ls (op (p_pickt rfl rfl) rfl) ?_
     refine ls (op (p_asg rfl) rfl) ?_
     refine ln ?_
     refine nthen ?_
     refine cc rfl (fun h => ?_) (fun h => by cases h)
     refine cs ?_
     refine cr ?_
     refine ls (op (p_asg rfl) rfl) ?_
     refine ln ?_
     refine nthen ?_
     refine cret ?_
     refine xret (fun _ _ h => h) ?_
     refine rret (is := []) () (Or.inl rfl) (Res.t rfl Res.d) ?_ rfl (by repeat (first | exact Sub.d | (refine Sub.s ?_ ?_; (repeat (first | exact In.z | apply In.s))) | (refine Sub.suf ?_; (repeat (first | exact Suf.z | apply Suf.s)))))
     simp only [packV]; rw [right_f2 (by simp at h26; omega)]
    ·
     intro h26
     refine lwant rfl rfl rfl rfl (op (p_fa fa31_2 rfl) rfl) ?_
     refine lwant rfl rfl rfl rfl (o_ld Tryz.isAgg22 rfl (by repeat (first | exact At.z | apply At.s)) (by repeat (first | exact At.z | apply At.s)) rfl) ?_
     refine lwant rfl rfl rfl rfl (op (p_move rfl) rfl) ?_
     refine lwant rfl rfl rfl rfl (o_call (is := [0, 0]) Tryz.call36 (c_ContainsFuncI p.deps y.1.1 y.1.2 hp.dl 0 p y b3 b1) rfl rfl (by repeat (first | exact Sub.d | (refine Sub.s ?_ ?_; (repeat (first | exact In.z | apply In.s))) | (refine Sub.suf ?_; (repeat (first | exact Suf.z | apply Suf.s))))) rfl) ?_
     refine le ?_; intro r30
     refine ls (op (p_pickf rfl rfl) rfl) ?_
     refine ls (op (p_asg rfl) rfl) ?_
     refine ln ?_
     refine nthen ?_
     refine cc rfl ?_ ?_
     ·
      intro h21
      try simp only [decide_eq_true_eq, decide_eq_false_iff_not, Bool.not_eq_true', Bool.not_eq_false', Int.not_lt, Int.not_le, ge_iff_le, Bool.not_true, Bool.not_false] at h21
      refine cs ?_
      refine cr ?_
      refine ls (op (p_asg rfl) rfl) ?_
      refine ln ?_
      refine nthen ?_
      refine cret ?_
      refine xret (fun _ _ h => h) ?_
      refine rret (is := []) () (Or.inl rfl) (Res.t rfl Res.d) ?_ rfl (by repeat (first | exact Sub.d | (refine Sub.s ?_ ?_; (repeat (first | exact In.z | apply In.s))) | (refine Sub.suf ?_; (repeat (first | exact Suf.z | apply Suf.s)))))
      simp only [packV]; rw [right_f3 (by simpa using h21)]
     ·
      intro h21
      try simp only [decide_eq_true_eq, decide_eq_false_iff_not, Bool.not_eq_true', Bool.not_eq_false', Int.not_lt, Int.not_le, ge_iff_le, Bool.not_true, Bool.not_false] at h21
      refine cskip ?_
      refine nblock ?_
      refine nthen ?_
      refine cs ?_
      have hll := hp.ll
      refine cr ?_
      refine ls (op (p_fa fa31_3 rfl) rfl) ?_
      refine ls (o_ld Tryz.isAgg29 rfl (by repeat (first | exact At.z | apply At.s)) (by repeat (first | exact At.z | apply At.s)) rfl) ?_
      refine ls (op (p_lenl rfl Tryz.underlying29) rfl) ?_
      refine ls (op (p_icmp rfl rfl rfl) rfl) ?_
      refine ls (op (p_move rfl) rfl) ?_
      refine andX 5 36 41 rfl (subσ.cons (t := 0) rfl (subσ.cons (t := 1) rfl (subσ.cons (t := 2) rfl (subσ.cons (t := 3) rfl (subσ.cons (t := 5) rfl (subσ.cons (t := 4) rfl (subσ.cons (t := 20) rfl (subσ.cons (t := 6) rfl (subσ.cons (t := 22) rfl (subσ.cons (t := 23) rfl (subσ.cons (t := 24) rfl (subσ.cons (t := 25) rfl (subσ.cons (t := 26) rfl (subσ.cons (t := 27) rfl (subσ.cons (t := 28) rfl (subσ.cons (t := 29) rfl (subσ.cons (t := 30) rfl (subσ.cons (t := 31) rfl (subσ.cons (t := 21) rfl (subσ.nil _)))))))))))))))))))) ?_ ?_
      ·
       intro h36
       refine lskip rfl rfl rfl rfl rfl ?_
       refine lskip rfl rfl rfl rfl rfl ?_
       refine lskip rfl rfl rfl rfl rfl ?_
       refine lskip rfl rfl rfl rfl rfl ?_
       refine ls (op (p_pickf rfl rfl) rfl) ?_
       refine ln (nmid (wk0 (by repeat (first | exact subσ.nil _ | refine subσ.cons rfl ?_)) (by repeat (first | exact Sub.d | (refine Sub.s ?_ ?_; (repeat (first | exact In.z | apply In.s))) | (refine Sub.suf ?_; (repeat (first | exact Suf.z | apply Suf.s)))))))
      apply exI
      ·
       intro h36
       refine lwant rfl rfl rfl rfl (op (p_fa fa31_3 rfl) rfl) ?_
       refine lwant rfl rfl rfl rfl (o_ld Tryz.isAgg29 rfl (by repeat (first | exact At.z | apply At.s)) (by repeat (first | exact At.z | apply At.s)) rfl) ?_
       refine lwant rfl rfl rfl rfl (op (p_lenl rfl Tryz.underlying29) rfl) ?_
       refine lwant rfl rfl rfl rfl (op (p_icmp rfl rfl rfl) rfl) ?_
       refine ls (op (p_pickt rfl rfl) rfl) ?_
       refine ln (nmid (wk0 (by repeat (first | exact subσ.nil _ | refine subσ.cons rfl ?_)) (by repeat (first | exact Sub.d | (refine Sub.s ?_ ?_; (repeat (first | exact In.z | apply In.s))) | (refine Sub.suf ?_; (repeat (first | exact Suf.z | apply Suf.s)))))))
      ·
       refine ls (op (p_move rfl) rfl) ?_
       refine andX 4 42 46 rfl (subσ.cons (t := 0) rfl (subσ.cons (t := 1) rfl (subσ.cons (t := 2) rfl (subσ.cons (t := 3) rfl (subσ.cons (t := 5) rfl (subσ.cons (t := 4) rfl (subσ.cons (t := 20) rfl (subσ.cons (t := 6) rfl (subσ.cons (t := 22) rfl (subσ.cons (t := 23) rfl (subσ.cons (t := 24) rfl (subσ.cons (t := 25) rfl (subσ.cons (t := 26) rfl (subσ.cons (t := 27) rfl (subσ.cons (t := 28) rfl (subσ.cons (t := 29) rfl (subσ.cons (t := 30) rfl (subσ.cons (t := 31) rfl (subσ.cons (t := 21) rfl (subσ.nil _)))))))))))))))))))) ?_ ?_
       ·
        intro h42
        refine lskip rfl rfl rfl rfl rfl ?_
        refine lskip rfl rfl rfl rfl rfl ?_
        refine lskip rfl rfl rfl rfl rfl ?_
        refine ls (op (p_pickf rfl rfl) rfl) ?_
        refine ln (nmid (wk0 (by repeat (first | exact subσ.nil _ | refine subσ.cons rfl ?_)) (by repeat (first | exact Sub.d | (refine Sub.s ?_ ?_; (repeat (first | exact In.z | apply In.s))) | (refine Sub.suf ?_; (repeat (first | exact Suf.z | apply Suf.s)))))))
       apply exI
       ·
        intro h42
        refine lwant rfl rfl rfl rfl (op (p_fa fa31_3 rfl) rfl) ?_
        refine lwant rfl rfl rfl rfl (o_ld Tryz.isAgg29 rfl (by repeat (first | exact At.z | apply At.s)) (by repeat (first | exact At.z | apply At.s)) rfl) ?_
        refine lwant rfl rfl rfl rfl (o_call (is := []) Tryz.call37 (c_seqRight p.l _ _ hp.ll hp.lf) rfl rfl (by repeat (first | exact Sub.d | (refine Sub.s ?_ ?_; (repeat (first | exact In.z | apply In.s))) | (refine Sub.suf ?_; (repeat (first | exact Suf.z | apply Suf.s))))) rfl) ?_
        refine le ?_; intro x45
        refine ls (op (p_pickt rfl rfl) rfl) ?_
        refine ln (nmid (wk0 (by repeat (first | exact subσ.nil _ | refine subσ.cons rfl ?_)) (by repeat (first | exact Sub.d | (refine Sub.s ?_ ?_; (repeat (first | exact In.z | apply In.s))) | (refine Sub.suf ?_; (repeat (first | exact Suf.z | apply Suf.s)))))))
       ·
        refine ls (op (p_asg rfl) rfl) ?_
        refine ln ?_
        refine nthen ?_
        refine cret ?_
        refine xret (fun _ _ h => h) ?_
        refine rret (is := []) () (Or.inl rfl) (Res.t rfl Res.d) ?_ rfl (by repeat (first | exact Sub.d | (refine Sub.s ?_ ?_; (repeat (first | exact In.z | apply In.s))) | (refine Sub.suf ?_; (repeat (first | exact Suf.z | apply Suf.s)))))
        simp only [packV]; rw [right_t h6 (by simp at h26; omega) (by simpa using h21)]

set_option maxRecDepth 100000 in
theorem c_nSame (p q : Patch) (yp yq : Rp.Lay Patch) (hp : p.fit) (hq : q.fit) : Con Tryz.prog 14 [sv p yp, sv q yq] [] [slA yp.1.1 p.deps, slA yp.2.1 p.l, slA yq.1.1 q.deps, slA yq.2.1 q.l] Unit (fun _ => .bool (decide (p = q))) (fun _ => []) (fun _ => []) := by
 refine con Tryz.func14 rfl Tryz.ntmps14 rfl ?_
 intro M0 F0 w0
 refine cs ?_
 refine cr ?_
 refine ls (o_box rfl rfl rfl) ?_
 refine le ?_; intro b2
 refine ls (o_box rfl rfl rfl) ?_
 refine le ?_; intro b3
 refine ls (op (p_asg rfl) rfl) ?_
 refine ln ?_
 refine nthen ?_
 refine cs ?_
 refine cr ?_
 refine ls (op (p_fa fa31_0 rfl) rfl) ?_
 refine ls (o_ld Tryz.isAgg3 rfl (by repeat (first | exact At.z | apply At.s)) (by repeat (first | exact At.z | apply At.s)) rfl) ?_
 refine ls (op (p_fa fa31_0 rfl) rfl) ?_
 refine ls (o_ld Tryz.isAgg3 rfl (by repeat (first | exact At.z | apply At.s)) (by repeat (first | exact At.z | apply At.s)) rfl) ?_
 refine ls (op (p_icmp rfl rfl rfl) rfl) ?_
 refine ls (op (p_move rfl) rfl) ?_
 refine andX 6 10 16 rfl (subσ.cons (t := 0) rfl (subσ.cons (t := 1) rfl (subσ.cons (t := 2) rfl (subσ.cons (t := 3) rfl (subσ.cons (t := 4) rfl (subσ.nil _)))))) ?_ ?_
 ·
  intro h10
  refine lskip rfl rfl rfl rfl rfl ?_
  refine lskip rfl rfl rfl rfl rfl ?_
  refine lskip rfl rfl rfl rfl rfl ?_
  refine lskip rfl rfl rfl rfl rfl ?_
  refine lskip rfl rfl rfl rfl rfl ?_
  refine ls (op (p_pickf rfl rfl) rfl) ?_
  refine ln (nmid (wk0 (by repeat (first | exact subσ.nil _ | refine subσ.cons rfl ?_)) (by repeat (first | exact Sub.d | (refine Sub.s ?_ ?_; (repeat (first | exact In.z | apply In.s))) | (refine Sub.suf ?_; (repeat (first | exact Suf.z | apply Suf.s)))))))
 apply exI
 ·
  intro h10
  refine lwant rfl rfl rfl rfl (op (p_fa fa31_1 rfl) rfl) ?_
  refine lwant rfl rfl rfl rfl (o_ld Tryz.isAgg9 rfl (by repeat (first | exact At.z | apply At.s)) (by repeat (first | exact At.z | apply At.s)) rfl) ?_
  refine lwant rfl rfl rfl rfl (op (p_fa fa31_1 rfl) rfl) ?_
  refine lwant rfl rfl rfl rfl (o_ld Tryz.isAgg9 rfl (by repeat (first | exact At.z | apply At.s)) (by repeat (first | exact At.z | apply At.s)) rfl) ?_
  refine lwant rfl rfl rfl rfl (op (p_seq rfl rfl) rfl) ?_
  refine ls (op (p_pickt rfl rfl) rfl) ?_
  refine ln (nmid (wk0 (by repeat (first | exact subσ.nil _ | refine subσ.cons rfl ?_)) (by repeat (first | exact Sub.d | (refine Sub.s ?_ ?_; (repeat (first | exact In.z | apply In.s))) | (refine Sub.suf ?_; (repeat (first | exact Suf.z | apply Suf.s)))))))
 ·
  refine ls (op (p_move rfl) rfl) ?_
  refine andX 6 17 23 rfl (subσ.cons (t := 0) rfl (subσ.cons (t := 1) rfl (subσ.cons (t := 2) rfl (subσ.cons (t := 3) rfl (subσ.cons (t := 4) rfl (subσ.nil _)))))) ?_ ?_
  ·
   intro h17
   refine lskip rfl rfl rfl rfl rfl ?_
   refine lskip rfl rfl rfl rfl rfl ?_
   refine lskip rfl rfl rfl rfl rfl ?_
   refine lskip rfl rfl rfl rfl rfl ?_
   refine lskip rfl rfl rfl rfl rfl ?_
   refine ls (op (p_pickf rfl rfl) rfl) ?_
   refine ln (nmid (wk0 (by repeat (first | exact subσ.nil _ | refine subσ.cons rfl ?_)) (by repeat (first | exact Sub.d | (refine Sub.s ?_ ?_; (repeat (first | exact In.z | apply In.s))) | (refine Sub.suf ?_; (repeat (first | exact Suf.z | apply Suf.s)))))))
  apply exI
  ·
   intro h17
   refine lwant rfl rfl rfl rfl (op (p_fa fa31_2 rfl) rfl) ?_
   refine lwant rfl rfl rfl rfl (o_ld Tryz.isAgg22 rfl (by repeat (first | exact At.z | apply At.s)) (by repeat (first | exact At.z | apply At.s)) rfl) ?_
   refine lwant rfl rfl rfl rfl (op (p_fa fa31_2 rfl) rfl) ?_
   refine lwant rfl rfl rfl rfl (o_ld Tryz.isAgg22 rfl (by repeat (first | exact At.z | apply At.s)) (by repeat (first | exact At.z | apply At.s)) rfl) ?_
   refine lwant rfl rfl rfl rfl (o_call (is := []) Tryz.call41 (c_EqualI p.deps q.deps _ _ _ _ hp.dl) rfl rfl (by repeat (first | exact Sub.d | (refine Sub.s ?_ ?_; (repeat (first | exact In.z | apply In.s))) | (refine Sub.suf ?_; (repeat (first | exact Suf.z | apply Suf.s))))) rfl) ?_
   refine le ?_; intro x22
   refine ls (op (p_pickt rfl rfl) rfl) ?_
   refine ln (nmid (wk0 (by repeat (first | exact subσ.nil _ | refine subσ.cons rfl ?_)) (by repeat (first | exact Sub.d | (refine Sub.s ?_ ?_; (repeat (first | exact In.z | apply In.s))) | (refine Sub.suf ?_; (repeat (first | exact Suf.z | apply Suf.s)))))))
  ·
   refine ls (op (p_move rfl) rfl) ?_
   refine andX 6 24 30 rfl (subσ.cons (t := 0) rfl (subσ.cons (t := 1) rfl (subσ.cons (t := 4) rfl (subσ.nil _)))) ?_ ?_
   ·
    intro h24
    refine lskip rfl rfl rfl rfl rfl ?_
    refine lskip rfl rfl rfl rfl rfl ?_
    refine lskip rfl rfl rfl rfl rfl ?_
    refine lskip rfl rfl rfl rfl rfl ?_
    refine lskip rfl rfl rfl rfl rfl ?_
    refine ls (op (p_pickf rfl rfl) rfl) ?_
    refine ln (nmid (wk0 (by repeat (first | exact subσ.nil _ | refine subσ.cons rfl ?_)) (by repeat (first | exact Sub.d | (refine Sub.s ?_ ?_; (repeat (first | exact In.z | apply In.s))) | (refine Sub.suf ?_; (repeat (first | exact Suf.z | apply Suf.s)))))))
   apply exI
   ·
    intro h24
    refine lwant rfl rfl rfl rfl (op (p_fa fa31_3 rfl) rfl) ?_
    refine lwant rfl rfl rfl rfl (o_ld Tryz.isAgg29 rfl (by repeat (first | exact At.z | apply At.s)) (by repeat (first | exact At.z | apply At.s)) rfl) ?_
    refine lwant rfl rfl rfl rfl (op (p_fa fa31_3 rfl) rfl) ?_
    refine lwant rfl rfl rfl rfl (o_ld Tryz.isAgg29 rfl (by repeat (first | exact At.z | apply At.s)) (by repeat (first | exact At.z | apply At.s)) rfl) ?_
    refine lwant rfl rfl rfl rfl (o_call (is := []) Tryz.call42 (c_seqSame p.l q.l _ _ _ _ hp.ll hp.lf) rfl rfl (by repeat (first | exact Sub.d | (refine Sub.s ?_ ?_; (repeat (first | exact In.z | apply In.s))) | (refine Sub.suf ?_; (repeat (first | exact Suf.z | apply Suf.s))))) rfl) ?_
    refine le ?_; intro x29
    refine ls (op (p_pickt rfl rfl) rfl) ?_
    refine ln (nmid (wk0 (by repeat (first | exact subσ.nil _ | refine subσ.cons rfl ?_)) (by repeat (first | exact Sub.d | (refine Sub.s ?_ ?_; (repeat (first | exact In.z | apply In.s))) | (refine Sub.suf ?_; (repeat (first | exact Suf.z | apply Suf.s)))))))
   ·
    refine ls (op (p_asg rfl) rfl) ?_
    refine ln ?_
    refine nthen ?_
    refine cret ?_
    refine xret (fun _ _ h => h) ?_
    refine rret (is := []) () (Or.inl rfl) (Res.t rfl Res.d) ?_ rfl (by repeat (first | exact Sub.d | (refine Sub.s ?_ ?_; (repeat (first | exact In.z | apply In.s))) | (refine Sub.suf ?_; (repeat (first | exact Suf.z | apply Suf.s)))))
    simp only [packV, dec_patch]

set_option maxRecDepth 100000 in
theorem c_rRight (p : Patch) (y : Rp.Lay Patch) (hp : p.fit) : Con Tryz.prog 13 [sv p y] [] [slA y.1.1 p.deps, slA y.2.1 p.l] Unit (fun _ => .bool (p.right)) (fun _ => []) (fun _ => []) := by
 refine con Tryz.func13 rfl Tryz.ntmps13 rfl ?_
 intro M0 F0 w0
 refine cs ?_
 refine cr ?_
 refine ls (o_box rfl rfl rfl) ?_
 refine le ?_; intro b1
 refine ls (op (p_asg rfl) rfl) ?_
 refine ln ?_
 refine nthen ?_
 refine cs ?_
 refine cs ?_
 have hdl := hp.dl; have hll := hp.ll
 refine cr ?_
 refine ls (op (p_fa fa25_0 rfl) rfl) ?_
 refine ls (o_ld Tryz.isAgg3 rfl (by repeat (first | exact At.z | apply At.s)) (by repeat (first | exact At.z | apply At.s)) rfl) ?_
 refine ls (op (p_icmp rfl rfl rfl) rfl) ?_
 refine ls (op (p_move rfl) rfl) ?_
 refine orX 4 7 11 rfl (subσ.cons (t := 0) rfl (subσ.cons (t := 1) rfl (subσ.cons (t := 2) rfl (subσ.nil _)))) ?_ ?_
 ·
  intro h7
  refine lskip rfl rfl rfl rfl rfl ?_
  refine lskip rfl rfl rfl rfl rfl ?_
  refine lskip rfl rfl rfl rfl rfl ?_
  refine ls (op (p_pickt rfl rfl) rfl) ?_
  refine ln (nmid (wk0 (by repeat (first | exact subσ.nil _ | refine subσ.cons rfl ?_)) (by repeat (first | exact Sub.d | (refine Sub.s ?_ ?_; (repeat (first | exact In.z | apply In.s))) | (refine Sub.suf ?_; (repeat (first | exact Suf.z | apply Suf.s)))))))
 apply exI
 ·
  intro h7
  refine lwant rfl rfl rfl rfl (op (p_fa fa25_0 rfl) rfl) ?_
  refine lwant rfl rfl rfl rfl (o_ld Tryz.isAgg3 rfl (by repeat (first | exact At.z | apply At.s)) (by repeat (first | exact At.z | apply At.s)) rfl) ?_
  refine lwant rfl rfl rfl rfl (op (p_icmp rfl rfl rfl) rfl) ?_
  refine ls (op (p_pickf rfl rfl) rfl) ?_
  refine ln (nmid (wk0 (by repeat (first | exact subσ.nil _ | refine subσ.cons rfl ?_)) (by repeat (first | exact Sub.d | (refine Sub.s ?_ ?_; (repeat (first | exact In.z | apply In.s))) | (refine Sub.suf ?_; (repeat (first | exact Suf.z | apply Suf.s)))))))
 ·
  refine ls (op (p_move rfl) rfl) ?_
  refine orX 5 12 17 rfl (subσ.cons (t := 0) rfl (subσ.cons (t := 1) rfl (subσ.cons (t := 2) rfl (subσ.nil _)))) ?_ ?_
  ·
   intro h12
   refine lskip rfl rfl rfl rfl rfl ?_
   refine lskip rfl rfl rfl rfl rfl ?_
   refine lskip rfl rfl rfl rfl rfl ?_
   refine lskip rfl rfl rfl rfl rfl ?_
   refine ls (op (p_pickt rfl rfl) rfl) ?_
   refine ln (nmid (wk0 (by repeat (first | exact subσ.nil _ | refine subσ.cons rfl ?_)) (by repeat (first | exact Sub.d | (refine Sub.s ?_ ?_; (repeat (first | exact In.z | apply In.s))) | (refine Sub.suf ?_; (repeat (first | exact Suf.z | apply Suf.s)))))))
  apply exI
  ·
   intro h12
   refine lwant rfl rfl rfl rfl (op (p_fa fa25_1 rfl) rfl) ?_
   refine lwant rfl rfl rfl rfl (o_ld Tryz.isAgg9 rfl (by repeat (first | exact At.z | apply At.s)) (by repeat (first | exact At.z | apply At.s)) rfl) ?_
   refine lwant rfl rfl rfl rfl (o_call (is := []) Tryz.call39 (c_refLine p.note hp.nb) rfl rfl (by repeat (first | exact Sub.d | (refine Sub.s ?_ ?_; (repeat (first | exact In.z | apply In.s))) | (refine Sub.suf ?_; (repeat (first | exact Suf.z | apply Suf.s))))) rfl) ?_
   refine le ?_; intro x15
   refine lwant rfl rfl rfl rfl (op (p_not rfl) rfl) ?_
   refine ls (op (p_pickf rfl rfl) rfl) ?_
   refine ln (nmid (wk0 (by repeat (first | exact subσ.nil _ | refine subσ.cons rfl ?_)) (by repeat (first | exact Sub.d | (refine Sub.s ?_ ?_; (repeat (first | exact In.z | apply In.s))) | (refine Sub.suf ?_; (repeat (first | exact Suf.z | apply Suf.s)))))))
  ·
   refine ls (op (p_move rfl) rfl) ?_
   refine orX 5 18 23 rfl (subσ.cons (t := 0) rfl (subσ.cons (t := 1) rfl (subσ.cons (t := 2) rfl (subσ.nil _)))) ?_ ?_
   ·
    intro h18
    refine lskip rfl rfl rfl rfl rfl ?_
    refine lskip rfl rfl rfl rfl rfl ?_
    refine lskip rfl rfl rfl rfl rfl ?_
    refine lskip rfl rfl rfl rfl rfl ?_
    refine ls (op (p_pickt rfl rfl) rfl) ?_
    refine ln (nmid (wk0 (by repeat (first | exact subσ.nil _ | refine subσ.cons rfl ?_)) (by repeat (first | exact Sub.d | (refine Sub.s ?_ ?_; (repeat (first | exact In.z | apply In.s))) | (refine Sub.suf ?_; (repeat (first | exact Suf.z | apply Suf.s)))))))
   apply exI
   ·
    intro h18
    refine lwant rfl rfl rfl rfl (op (p_fa fa25_2 rfl) rfl) ?_
    refine lwant rfl rfl rfl rfl (o_ld Tryz.isAgg22 rfl (by repeat (first | exact At.z | apply At.s)) (by repeat (first | exact At.z | apply At.s)) rfl) ?_
    refine lwant rfl rfl rfl rfl (op (p_lenl rfl Tryz.underlying22) rfl) ?_
    refine lwant rfl rfl rfl rfl (op (p_icmp rfl rfl rfl) rfl) ?_
    refine ls (op (p_pickf rfl rfl) rfl) ?_
    refine ln (nmid (wk0 (by repeat (first | exact subσ.nil _ | refine subσ.cons rfl ?_)) (by repeat (first | exact Sub.d | (refine Sub.s ?_ ?_; (repeat (first | exact In.z | apply In.s))) | (refine Sub.suf ?_; (repeat (first | exact Suf.z | apply Suf.s)))))))
   ·
    refine ls (op (p_move rfl) rfl) ?_
    refine orX 5 24 29 rfl (subσ.cons (t := 0) rfl (subσ.cons (t := 1) rfl (subσ.cons (t := 2) rfl (subσ.nil _)))) ?_ ?_
    ·
     intro h24
     refine lskip rfl rfl rfl rfl rfl ?_
     refine lskip rfl rfl rfl rfl rfl ?_
     refine lskip rfl rfl rfl rfl rfl ?_
     refine lskip rfl rfl rfl rfl rfl ?_
     refine ls (op (p_pickt rfl rfl) rfl) ?_
     refine ln (nmid (wk0 (by repeat (first | exact subσ.nil _ | refine subσ.cons rfl ?_)) (by repeat (first | exact Sub.d | (refine Sub.s ?_ ?_; (repeat (first | exact In.z | apply In.s))) | (refine Sub.suf ?_; (repeat (first | exact Suf.z | apply Suf.s)))))))
    apply exI
    ·
     intro h24
     refine lwant rfl rfl rfl rfl (op (p_fa fa25_3 rfl) rfl) ?_
     refine lwant rfl rfl rfl rfl (o_ld Tryz.isAgg23 rfl (by repeat (first | exact At.z | apply At.s)) (by repeat (first | exact At.z | apply At.s)) rfl) ?_
     refine lwant rfl rfl rfl rfl (op (p_lenl rfl Tryz.underlying23) rfl) ?_
     refine lwant rfl rfl rfl rfl (op (p_icmp rfl rfl rfl) rfl) ?_
     refine ls (op (p_pickf rfl rfl) rfl) ?_
     refine ln (nmid (wk0 (by repeat (first | exact subσ.nil _ | refine subσ.cons rfl ?_)) (by repeat (first | exact Sub.d | (refine Sub.s ?_ ?_; (repeat (first | exact In.z | apply In.s))) | (refine Sub.suf ?_; (repeat (first | exact Suf.z | apply Suf.s)))))))
    ·
     refine ls (op (p_move rfl) rfl) ?_
     refine orX 5 30 35 rfl (subσ.cons (t := 0) rfl (subσ.cons (t := 1) rfl (subσ.cons (t := 2) rfl (subσ.nil _)))) ?_ ?_
     ·
      intro h30
      refine lskip rfl rfl rfl rfl rfl ?_
      refine lskip rfl rfl rfl rfl rfl ?_
      refine lskip rfl rfl rfl rfl rfl ?_
      refine lskip rfl rfl rfl rfl rfl ?_
      refine ls (op (p_pickt rfl rfl) rfl) ?_
      refine ln (nmid (wk0 (by repeat (first | exact subσ.nil _ | refine subσ.cons rfl ?_)) (by repeat (first | exact Sub.d | (refine Sub.s ?_ ?_; (repeat (first | exact In.z | apply In.s))) | (refine Sub.suf ?_; (repeat (first | exact Suf.z | apply Suf.s)))))))
     apply exI
     ·
      intro h30
      refine lwant rfl rfl rfl rfl (op (p_fa fa25_3 rfl) rfl) ?_
      refine lwant rfl rfl rfl rfl (o_ld Tryz.isAgg23 rfl (by repeat (first | exact At.z | apply At.s)) (by repeat (first | exact At.z | apply At.s)) rfl) ?_
      refine lwant rfl rfl rfl rfl (op (p_lenl rfl Tryz.underlying23) rfl) ?_
      refine lwant rfl rfl rfl rfl (op (p_icmp rfl rfl rfl) rfl) ?_
      refine ls (op (p_pickf rfl rfl) rfl) ?_
      refine ln (nmid (wk0 (by repeat (first | exact subσ.nil _ | refine subσ.cons rfl ?_)) (by repeat (first | exact Sub.d | (refine Sub.s ?_ ?_; (repeat (first | exact In.z | apply In.s))) | (refine Sub.suf ?_; (repeat (first | exact Suf.z | apply Suf.s)))))))
     ·
      refine ln ?_
      refine nthen ?_
      refine cc rfl ?_ ?_
      ·
       intro h35
       try simp only [decide_eq_true_eq, decide_eq_false_iff_not, Bool.not_eq_true', Bool.not_eq_false', Int.not_lt, Int.not_le, ge_iff_le, Bool.not_true, Bool.not_false] at h35
       refine cs ?_
       refine cr ?_
       refine ls (op (p_asg rfl) rfl) ?_
       refine ln ?_
       refine nthen ?_
       refine cret ?_
       refine xret (fun _ _ h => h) ?_
       refine rret (is := []) () (Or.inl rfl) (Res.t rfl Res.d) ?_ rfl (by repeat (first | exact Sub.d | (refine Sub.s ?_ ?_; (repeat (first | exact In.z | apply In.s))) | (refine Sub.suf ?_; (repeat (first | exact Suf.z | apply Suf.s)))))
       simp only [packV]; rw [right_g1 h35]
      ·
       intro h35
       try simp only [decide_eq_true_eq, decide_eq_false_iff_not, Bool.not_eq_true', Bool.not_eq_false', Int.not_lt, Int.not_le, ge_iff_le, Bool.not_true, Bool.not_false] at h35
       refine cskip ?_
       refine nthen ?_
       refine cs ?_
       refine cs ?_
       refine cr ?_
       refine ls (op (p_asg rfl) rfl) ?_
       refine ln ?_
       refine nthen ?_
       refine cb ?_
       refine cl (ι := {q : Nat × Int // q.1 ≤ p.deps.length ∧ depsOk p.id 0 p.deps = depsOk p.id q.2 (p.deps.drop q.1) ∧ 0 ≤ q.2 ∧ (q.1 = 0 → q.2 = 0) ∧ (0 < q.1 → p.deps[q.1 - 1]? = some q.2)}) (fun i => St M0 F0 w0 88 [(1, .pointer (some ⟨b1, 0, none⟩)), (3, .int .i64 (i.1.1 : Int))] [box b1 25 (Rp.enc p y)] [slA y.1.1 p.deps, slA y.2.1 p.l]) (fun i => p.deps.length - i.1.1) ⟨(0, 0), Nat.zero_le _, by simp, by simp, fun _ => rfl, fun h => by simp at h⟩ (wk0 (by repeat (first | exact subσ.nil _ | refine subσ.cons rfl ?_)) (by repeat (first | exact Sub.d | (refine Sub.s ?_ ?_; (repeat (first | exact In.z | apply In.s))) | (refine Sub.suf ?_; (repeat (first | exact Suf.z | apply Suf.s)))))) ?_
       rintro ⟨⟨k, la⟩, hk, hkk, hz, hz0, hs⟩
       refine cmono (S' := St M0 F0 w0 88 [(1, .pointer (some ⟨b1, 0, none⟩)), (3, .int .i64 (k : Int))] [box b1 25 (Rp.enc p y)] [slA y.1.1 p.deps, slA y.2.1 p.l]) (fun _ _ h => h) ?_
       refine cs ?_
       refine cs ?_
       refine cr ?_
       refine ls (op (p_move rfl) rfl) ?_
       refine ls (op (p_fa fa25_2 rfl) rfl) ?_
       refine ls (o_ld Tryz.isAgg22 rfl (by repeat (first | exact At.z | apply At.s)) (by repeat (first | exact At.z | apply At.s)) rfl) ?_
       refine ls (op (p_lenl rfl Tryz.underlying22) rfl) ?_
       refine ls (op (p_icmp rfl rfl rfl) rfl) ?_
       refine ln ?_
       refine nthen ?_
       refine cc rfl ?_ ?_
       ·
        intro h40
        dsimp only at hk hkk hz hz0 hs
        try simp only [decide_eq_true_eq, decide_eq_false_iff_not, Bool.not_eq_true', Bool.not_eq_false', Int.not_lt, Int.not_le, ge_iff_le, Bool.not_true, Bool.not_false] at h40
        have hk1 : k < p.deps.length := by omega
        rw [depsOk_drop hk1] at hkk
        refine cskip ?_
        refine nthen ?_
        refine cs ?_
        refine cb ?_
        refine cs ?_
        have hcase : (p.deps[k] < 1) ∨ (¬ p.deps[k] < 1 ∧ 1000000000 < p.deps[k]) ∨ (¬ p.deps[k] < 1 ∧ ¬ 1000000000 < p.deps[k] ∧ p.deps[k] = p.id) ∨ (¬ p.deps[k] < 1 ∧ ¬ 1000000000 < p.deps[k] ∧ ¬ p.deps[k] = p.id ∧ k = 0) ∨ (¬ p.deps[k] < 1 ∧ ¬ 1000000000 < p.deps[k] ∧ ¬ p.deps[k] = p.id ∧ 0 < k ∧ p.deps[k] ≤ la) ∨ (¬ p.deps[k] < 1 ∧ ¬ 1000000000 < p.deps[k] ∧ ¬ p.deps[k] = p.id ∧ 0 < k ∧ ¬ p.deps[k] ≤ la) := by omega
        rcases hcase with g1 | ⟨g1, g2⟩ | ⟨g1, g2, g3⟩ | ⟨g1, g2, g3, g4⟩ | ⟨g1, g2, g3, g4, g5⟩ | ⟨g1, g2, g3, g4, g5⟩
        ·
         refine elC (by repeat (first | exact At.z | apply At.s)) k (List.getElem?_eq_getElem (l := p.deps) hk1) ?_; rintro zbp zop zyp hAp
         refine cd [] [(1, b1, 2, _), (4, zbp, zop + k * Rp.size Int, _)] TryzX.mixed (TOk.t (isBoxS (by repeat (first | exact At.z | apply At.s)) (k := 1) (by repeat (first | exact Cut.d | apply Cut.t | apply Cut.s))) (TOk.t (isInS (by repeat (first | exact At.z | apply At.s)) (k := 0) rfl (z := 1) (by repeat (first | exact Cut.d | apply Cut.t | apply Cut.s))) TOk.d)) ?_
         refine tk 0 rfl (by kernel_rfl) (fun _ _ _ h => h) gnone (TTany _) (p_fa fa25_2 rfl) rfl ?_
         refine tk 1 rfl (by kernel_rfl) (fun _ _ _ h => h) gnone (TTat (List.Mem.head _)) (p_ld Tryz.isAgg22 rfl) rfl ?_
         refine tk 2 rfl (by kernel_rfl) (fun _ _ _ h => h) gnone (TTany _) (p_move rfl) rfl ?_
         refine tk 3 rfl (by kernel_rfl) (fun _ _ _ h => h) gnone (TTany _) (p_ia k hAp hk1 rfl Tryz.underlying22 Tryz.sizeOf3 rfl rfl) rfl ?_
         refine tk 4 rfl (by kernel_rfl) (fun _ _ _ h => h) gnone (TTat (List.Mem.tail _ (List.Mem.head _))) (p_ld Tryz.isAgg3 rfl) rfl ?_
         refine tk 5 rfl (by kernel_rfl) (fun _ _ _ h => h) gnone (TTany _) (p_icmp rfl rfl rfl) rfl ?_
         rw [show decide (p.deps[k] < 1) = true from decide_eq_true g1]
         refine tk 6 rfl (by kernel_rfl) (fun _ _ _ h => h) gnone (TTany _) (p_move rfl) rfl ?_
         refine tks 7 rfl (by kernel_rfl) (fun _ _ _ h => h) rfl rfl rfl rfl rfl ?_
         refine tks 8 rfl (by kernel_rfl) (fun _ _ _ h => h) rfl rfl rfl rfl rfl ?_
         refine tks 9 rfl (by kernel_rfl) (fun _ _ _ h => h) rfl rfl rfl rfl rfl ?_
         refine tks 10 rfl (by kernel_rfl) (fun _ _ _ h => h) rfl rfl rfl rfl rfl ?_
         refine tks 11 rfl (by kernel_rfl) (fun _ _ _ h => h) rfl rfl rfl rfl rfl ?_
         refine tks 12 rfl (by kernel_rfl) (fun _ _ _ h => h) rfl rfl rfl rfl rfl ?_
         refine tk 13 rfl (by kernel_rfl) (fun _ _ _ h => h) gnone (TTany _) (p_pickt rfl rfl) rfl ?_
         refine tk 14 rfl (by kernel_rfl) (fun _ _ _ h => h) gnone (TTany _) (p_move rfl) rfl ?_
         refine tks 15 rfl (by kernel_rfl) (fun _ _ _ h => h) rfl rfl rfl rfl rfl ?_
         refine tks 16 rfl (by kernel_rfl) (fun _ _ _ h => h) rfl rfl rfl rfl rfl ?_
         refine tks 17 rfl (by kernel_rfl) (fun _ _ _ h => h) rfl rfl rfl rfl rfl ?_
         refine tks 18 rfl (by kernel_rfl) (fun _ _ _ h => h) rfl rfl rfl rfl rfl ?_
         refine tks 19 rfl (by kernel_rfl) (fun _ _ _ h => h) rfl rfl rfl rfl rfl ?_
         refine tks 20 rfl (by kernel_rfl) (fun _ _ _ h => h) rfl rfl rfl rfl rfl ?_
         refine tks 21 rfl (by kernel_rfl) (fun _ _ _ h => h) rfl rfl rfl rfl rfl ?_
         refine tks 22 rfl (by kernel_rfl) (fun _ _ _ h => h) rfl rfl rfl rfl rfl ?_
         refine tk 23 rfl (by kernel_rfl) (fun _ _ _ h => h) gnone (TTany _) (p_pickt rfl rfl) rfl ?_
         refine tk 24 rfl (by kernel_rfl) (fun _ _ _ h => h) gnone (TTany _) (p_move rfl) rfl ?_
         refine tks 25 rfl (by kernel_rfl) (fun _ _ _ h => h) rfl rfl rfl rfl rfl ?_
         refine tks 26 rfl (by kernel_rfl) (fun _ _ _ h => h) rfl rfl rfl rfl rfl ?_
         refine tks 27 rfl (by kernel_rfl) (fun _ _ _ h => h) rfl rfl rfl rfl rfl ?_
         refine tksu 28 rfl (by kernel_rfl) (fun _ _ _ h => h) rfl rfl rfl rfl ?_
         refine tksu 29 rfl (by kernel_rfl) (fun _ _ _ h => h) rfl rfl rfl rfl ?_
         refine tksu 30 rfl (by kernel_rfl) (fun _ _ _ h => h) rfl rfl rfl rfl ?_
         refine tksu 31 rfl (by kernel_rfl) (fun _ _ _ h => h) rfl rfl rfl rfl ?_
         refine tksu 32 rfl (by kernel_rfl) (fun _ _ _ h => h) rfl rfl rfl rfl ?_
         refine tksu 33 rfl (by kernel_rfl) (fun _ _ _ h => h) rfl rfl rfl rfl ?_
         refine tksu 34 rfl (by kernel_rfl) (fun _ _ _ h => h) rfl rfl rfl rfl ?_
         refine tksu 35 rfl (by kernel_rfl) (fun _ _ _ h => h) rfl rfl rfl rfl ?_
         refine tksu 36 rfl (by kernel_rfl) (fun _ _ _ h => h) rfl rfl rfl rfl ?_
         refine tksu 37 rfl (by kernel_rfl) (fun _ _ _ h => h) rfl rfl rfl rfl ?_
         refine tksu 38 rfl (by kernel_rfl) (fun _ _ _ h => h) rfl rfl rfl rfl ?_
         refine tksu 39 rfl (by kernel_rfl) (fun _ _ _ h => h) rfl rfl rfl rfl ?_
         refine tks 40 rfl (by kernel_rfl) (fun _ _ _ h => h) rfl rfl rfl rfl rfl ?_
         refine tk 41 rfl (by kernel_rfl) (fun _ _ _ h => h) gnone (TTany _) (p_pickt rfl rfl) rfl ?_
         refine dn (by kernel_rfl) ?_
         refine nthen ?_
         refine cc rfl (fun h => ?_) (fun h => by cases h)
         refine cs ?_
         refine cr ?_
         refine ls (op (p_asg rfl) rfl) ?_
         refine ln ?_
         refine nthen ?_
         refine cret ?_
         refine xret (fun _ _ h => h) ?_
         refine rret (is := []) () (Or.inl rfl) (Res.t rfl Res.d) ?_ rfl (by repeat (first | exact Sub.d | (refine Sub.s ?_ ?_; (repeat (first | exact In.z | apply In.s))) | (refine Sub.suf ?_; (repeat (first | exact Suf.z | apply Suf.s)))))
         simp only [packV]; rw [right_f3 (by rw [hkk]; grind)]
        ·
         refine elC (by repeat (first | exact At.z | apply At.s)) k (List.getElem?_eq_getElem (l := p.deps) hk1) ?_; rintro zbp zop zyp hAp
         refine cd [] [(1, b1, 2, _), (4, zbp, zop + k * Rp.size Int, _), (8, b1, 2, _), (11, zbp, zop + k * Rp.size Int, _)] TryzX.mixed (TOk.t (isBoxS (by repeat (first | exact At.z | apply At.s)) (k := 1) (by repeat (first | exact Cut.d | apply Cut.t | apply Cut.s))) (TOk.t (isInS (by repeat (first | exact At.z | apply At.s)) (k := 0) rfl (z := 1) (by repeat (first | exact Cut.d | apply Cut.t | apply Cut.s))) (TOk.t (isBoxS (by repeat (first | exact At.z | apply At.s)) (k := 1) (by repeat (first | exact Cut.d | apply Cut.t | apply Cut.s))) (TOk.t (isInS (by repeat (first | exact At.z | apply At.s)) (k := 0) rfl (z := 1) (by repeat (first | exact Cut.d | apply Cut.t | apply Cut.s))) TOk.d)))) ?_
         refine tk 0 rfl (by kernel_rfl) (fun _ _ _ h => h) gnone (TTany _) (p_fa fa25_2 rfl) rfl ?_
         refine tk 1 rfl (by kernel_rfl) (fun _ _ _ h => h) gnone (TTat (List.Mem.head _)) (p_ld Tryz.isAgg22 rfl) rfl ?_
         refine tk 2 rfl (by kernel_rfl) (fun _ _ _ h => h) gnone (TTany _) (p_move rfl) rfl ?_
         refine tk 3 rfl (by kernel_rfl) (fun _ _ _ h => h) gnone (TTany _) (p_ia k hAp hk1 rfl Tryz.underlying22 Tryz.sizeOf3 rfl rfl) rfl ?_
         refine tk 4 rfl (by kernel_rfl) (fun _ _ _ h => h) gnone (TTat (List.Mem.tail _ (List.Mem.head _))) (p_ld Tryz.isAgg3 rfl) rfl ?_
         refine tk 5 rfl (by kernel_rfl) (fun _ _ _ h => h) gnone (TTany _) (p_icmp rfl rfl rfl) rfl ?_
         rw [show decide (p.deps[k] < 1) = false from decide_eq_false g1]
         refine tk 6 rfl (by kernel_rfl) (fun _ _ _ h => h) gnone (TTany _) (p_move rfl) rfl ?_
         refine tk 7 rfl (by kernel_rfl) (fun _ _ _ h => h) (gyes rfl rfl rfl rfl) (TTany _) (gpu (p_fa fa25_2 rfl)) rfl ?_
         refine tk 8 rfl (by kernel_rfl) (fun _ _ _ h => h) (gyes rfl rfl rfl rfl) (TTat (List.Mem.tail _ (List.Mem.tail _ (List.Mem.head _)))) (gpu (p_ld Tryz.isAgg22 rfl)) rfl ?_
         refine tk 9 rfl (by kernel_rfl) (fun _ _ _ h => h) (gyes rfl rfl rfl rfl) (TTany _) (gpu (p_move rfl)) rfl ?_
         refine tk 10 rfl (by kernel_rfl) (fun _ _ _ h => h) (gyes rfl rfl rfl rfl) (TTany _) (gpu (p_ia k hAp hk1 rfl Tryz.underlying22 Tryz.sizeOf3 rfl rfl)) rfl ?_
         refine tk 11 rfl (by kernel_rfl) (fun _ _ _ h => h) (gyes rfl rfl rfl rfl) (TTat (List.Mem.tail _ (List.Mem.tail _ (List.Mem.tail _ (List.Mem.head _))))) (gpu (p_ld Tryz.isAgg3 rfl)) rfl ?_
         refine tk 12 rfl (by kernel_rfl) (fun _ _ _ h => h) (gyes rfl rfl rfl rfl) (TTany _) (gpu (p_icmp rfl rfl rfl)) rfl ?_
         rw [show decide ((1000000000 : Int) < p.deps[k]) = true from decide_eq_true g2]
         refine tk 13 rfl (by kernel_rfl) (fun _ _ _ h => h) gnone (TTany _) (p_pickf rfl rfl) rfl ?_
         refine tk 14 rfl (by kernel_rfl) (fun _ _ _ h => h) gnone (TTany _) (p_move rfl) rfl ?_
         refine tks 15 rfl (by kernel_rfl) (fun _ _ _ h => h) rfl rfl rfl rfl rfl ?_
         refine tks 16 rfl (by kernel_rfl) (fun _ _ _ h => h) rfl rfl rfl rfl rfl ?_
         refine tks 17 rfl (by kernel_rfl) (fun _ _ _ h => h) rfl rfl rfl rfl rfl ?_
         refine tks 18 rfl (by kernel_rfl) (fun _ _ _ h => h) rfl rfl rfl rfl rfl ?_
         refine tks 19 rfl (by kernel_rfl) (fun _ _ _ h => h) rfl rfl rfl rfl rfl ?_
         refine tks 20 rfl (by kernel_rfl) (fun _ _ _ h => h) rfl rfl rfl rfl rfl ?_
         refine tks 21 rfl (by kernel_rfl) (fun _ _ _ h => h) rfl rfl rfl rfl rfl ?_
         refine tks 22 rfl (by kernel_rfl) (fun _ _ _ h => h) rfl rfl rfl rfl rfl ?_
         refine tk 23 rfl (by kernel_rfl) (fun _ _ _ h => h) gnone (TTany _) (p_pickt rfl rfl) rfl ?_
         refine tk 24 rfl (by kernel_rfl) (fun _ _ _ h => h) gnone (TTany _) (p_move rfl) rfl ?_
         refine tks 25 rfl (by kernel_rfl) (fun _ _ _ h => h) rfl rfl rfl rfl rfl ?_
         refine tks 26 rfl (by kernel_rfl) (fun _ _ _ h => h) rfl rfl rfl rfl rfl ?_
         refine tks 27 rfl (by kernel_rfl) (fun _ _ _ h => h) rfl rfl rfl rfl rfl ?_
         refine tksu 28 rfl (by kernel_rfl) (fun _ _ _ h => h) rfl rfl rfl rfl ?_
         refine tksu 29 rfl (by kernel_rfl) (fun _ _ _ h => h) rfl rfl rfl rfl ?_
         refine tksu 30 rfl (by kernel_rfl) (fun _ _ _ h => h) rfl rfl rfl rfl ?_
         refine tksu 31 rfl (by kernel_rfl) (fun _ _ _ h => h) rfl rfl rfl rfl ?_
         refine tksu 32 rfl (by kernel_rfl) (fun _ _ _ h => h) rfl rfl rfl rfl ?_
         refine tksu 33 rfl (by kernel_rfl) (fun _ _ _ h => h) rfl rfl rfl rfl ?_
         refine tksu 34 rfl (by kernel_rfl) (fun _ _ _ h => h) rfl rfl rfl rfl ?_
         refine tksu 35 rfl (by kernel_rfl) (fun _ _ _ h => h) rfl rfl rfl rfl ?_
         refine tksu 36 rfl (by kernel_rfl) (fun _ _ _ h => h) rfl rfl rfl rfl ?_
         refine tksu 37 rfl (by kernel_rfl) (fun _ _ _ h => h) rfl rfl rfl rfl ?_
         refine tksu 38 rfl (by kernel_rfl) (fun _ _ _ h => h) rfl rfl rfl rfl ?_
         refine tksu 39 rfl (by kernel_rfl) (fun _ _ _ h => h) rfl rfl rfl rfl ?_
         refine tks 40 rfl (by kernel_rfl) (fun _ _ _ h => h) rfl rfl rfl rfl rfl ?_
         refine tk 41 rfl (by kernel_rfl) (fun _ _ _ h => h) gnone (TTany _) (p_pickt rfl rfl) rfl ?_
         refine dn (by kernel_rfl) ?_
         refine nthen ?_
         refine cc rfl (fun h => ?_) (fun h => by cases h)
         refine cs ?_
         refine cr ?_
         refine ls (op (p_asg rfl) rfl) ?_
         refine ln ?_
         refine nthen ?_
         refine cret ?_
         refine xret (fun _ _ h => h) ?_
         refine rret (is := []) () (Or.inl rfl) (Res.t rfl Res.d) ?_ rfl (by repeat (first | exact Sub.d | (refine Sub.s ?_ ?_; (repeat (first | exact In.z | apply In.s))) | (refine Sub.suf ?_; (repeat (first | exact Suf.z | apply Suf.s)))))
         simp only [packV]; rw [right_f3 (by rw [hkk]; grind)]
        ·
         refine elC (by repeat (first | exact At.z | apply At.s)) k (List.getElem?_eq_getElem (l := p.deps) hk1) ?_; rintro zbp zop zyp hAp
         refine cd [] [(1, b1, 2, _), (4, zbp, zop + k * Rp.size Int, _), (8, b1, 2, _), (11, zbp, zop + k * Rp.size Int, _), (16, b1, 2, _), (19, zbp, zop + k * Rp.size Int, _), (21, b1, 0, _)] TryzX.mixed (TOk.t (isBoxS (by repeat (first | exact At.z | apply At.s)) (k := 1) (by repeat (first | exact Cut.d | apply Cut.t | apply Cut.s))) (TOk.t (isInS (by repeat (first | exact At.z | apply At.s)) (k := 0) rfl (z := 1) (by repeat (first | exact Cut.d | apply Cut.t | apply Cut.s))) (TOk.t (isBoxS (by repeat (first | exact At.z | apply At.s)) (k := 1) (by repeat (first | exact Cut.d | apply Cut.t | apply Cut.s))) (TOk.t (isInS (by repeat (first | exact At.z | apply At.s)) (k := 0) rfl (z := 1) (by repeat (first | exact Cut.d | apply Cut.t | apply Cut.s))) (TOk.t (isBoxS (by repeat (first | exact At.z | apply At.s)) (k := 1) (by repeat (first | exact Cut.d | apply Cut.t | apply Cut.s))) (TOk.t (isInS (by repeat (first | exact At.z | apply At.s)) (k := 0) rfl (z := 1) (by repeat (first | exact Cut.d | apply Cut.t | apply Cut.s))) (TOk.t (isBoxS (by repeat (first | exact At.z | apply At.s)) (k := 1) (by repeat (first | exact Cut.d | apply Cut.t | apply Cut.s))) TOk.d))))))) ?_
         refine tk 0 rfl (by kernel_rfl) (fun _ _ _ h => h) gnone (TTany _) (p_fa fa25_2 rfl) rfl ?_
         refine tk 1 rfl (by kernel_rfl) (fun _ _ _ h => h) gnone (TTat (List.Mem.head _)) (p_ld Tryz.isAgg22 rfl) rfl ?_
         refine tk 2 rfl (by kernel_rfl) (fun _ _ _ h => h) gnone (TTany _) (p_move rfl) rfl ?_
         refine tk 3 rfl (by kernel_rfl) (fun _ _ _ h => h) gnone (TTany _) (p_ia k hAp hk1 rfl Tryz.underlying22 Tryz.sizeOf3 rfl rfl) rfl ?_
         refine tk 4 rfl (by kernel_rfl) (fun _ _ _ h => h) gnone (TTat (List.Mem.tail _ (List.Mem.head _))) (p_ld Tryz.isAgg3 rfl) rfl ?_
         refine tk 5 rfl (by kernel_rfl) (fun _ _ _ h => h) gnone (TTany _) (p_icmp rfl rfl rfl) rfl ?_
         rw [show decide (p.deps[k] < 1) = false from decide_eq_false g1]
         refine tk 6 rfl (by kernel_rfl) (fun _ _ _ h => h) gnone (TTany _) (p_move rfl) rfl ?_
         refine tk 7 rfl (by kernel_rfl) (fun _ _ _ h => h) (gyes rfl rfl rfl rfl) (TTany _) (gpu (p_fa fa25_2 rfl)) rfl ?_
         refine tk 8 rfl (by kernel_rfl) (fun _ _ _ h => h) (gyes rfl rfl rfl rfl) (TTat (List.Mem.tail _ (List.Mem.tail _ (List.Mem.head _)))) (gpu (p_ld Tryz.isAgg22 rfl)) rfl ?_
         refine tk 9 rfl (by kernel_rfl) (fun _ _ _ h => h) (gyes rfl rfl rfl rfl) (TTany _) (gpu (p_move rfl)) rfl ?_
         refine tk 10 rfl (by kernel_rfl) (fun _ _ _ h => h) (gyes rfl rfl rfl rfl) (TTany _) (gpu (p_ia k hAp hk1 rfl Tryz.underlying22 Tryz.sizeOf3 rfl rfl)) rfl ?_
         refine tk 11 rfl (by kernel_rfl) (fun _ _ _ h => h) (gyes rfl rfl rfl rfl) (TTat (List.Mem.tail _ (List.Mem.tail _ (List.Mem.tail _ (List.Mem.head _))))) (gpu (p_ld Tryz.isAgg3 rfl)) rfl ?_
         refine tk 12 rfl (by kernel_rfl) (fun _ _ _ h => h) (gyes rfl rfl rfl rfl) (TTany _) (gpu (p_icmp rfl rfl rfl)) rfl ?_
         rw [show decide ((1000000000 : Int) < p.deps[k]) = false from decide_eq_false g2]
         refine tk 13 rfl (by kernel_rfl) (fun _ _ _ h => h) gnone (TTany _) (p_pickf rfl rfl) rfl ?_
         refine tk 14 rfl (by kernel_rfl) (fun _ _ _ h => h) gnone (TTany _) (p_move rfl) rfl ?_
         refine tk 15 rfl (by kernel_rfl) (fun _ _ _ h => h) (gyes rfl rfl rfl rfl) (TTany _) (gpu (p_fa fa25_2 rfl)) rfl ?_
         refine tk 16 rfl (by kernel_rfl) (fun _ _ _ h => h) (gyes rfl rfl rfl rfl) (TTat (List.Mem.tail _ (List.Mem.tail _ (List.Mem.tail _ (List.Mem.tail _ (List.Mem.head _)))))) (gpu (p_ld Tryz.isAgg22 rfl)) rfl ?_
         refine tk 17 rfl (by kernel_rfl) (fun _ _ _ h => h) (gyes rfl rfl rfl rfl) (TTany _) (gpu (p_move rfl)) rfl ?_
         refine tk 18 rfl (by kernel_rfl) (fun _ _ _ h => h) (gyes rfl rfl rfl rfl) (TTany _) (gpu (p_ia k hAp hk1 rfl Tryz.underlying22 Tryz.sizeOf3 rfl rfl)) rfl ?_
         refine tk 19 rfl (by kernel_rfl) (fun _ _ _ h => h) (gyes rfl rfl rfl rfl) (TTat (List.Mem.tail _ (List.Mem.tail _ (List.Mem.tail _ (List.Mem.tail _ (List.Mem.tail _ (List.Mem.head _))))))) (gpu (p_ld Tryz.isAgg3 rfl)) rfl ?_
         refine tk 20 rfl (by kernel_rfl) (fun _ _ _ h => h) (gyes rfl rfl rfl rfl) (TTany _) (gpu (p_fa fa25_0 rfl)) rfl ?_
         refine tk 21 rfl (by kernel_rfl) (fun _ _ _ h => h) (gyes rfl rfl rfl rfl) (TTat (List.Mem.tail _ (List.Mem.tail _ (List.Mem.tail _ (List.Mem.tail _ (List.Mem.tail _ (List.Mem.tail _ (List.Mem.head _)))))))) (gpu (p_ld Tryz.isAgg3 rfl)) rfl ?_
         refine tk 22 rfl (by kernel_rfl) (fun _ _ _ h => h) (gyes rfl rfl rfl rfl) (TTany _) (gpu (p_icmp rfl rfl rfl)) rfl ?_
         rw [show decide (p.deps[k] = p.id) = true from decide_eq_true g3]
         refine tk 23 rfl (by kernel_rfl) (fun _ _ _ h => h) gnone (TTany _) (p_pickf rfl rfl) rfl ?_
         refine tk 24 rfl (by kernel_rfl) (fun _ _ _ h => h) gnone (TTany _) (p_move rfl) rfl ?_
         refine tks 25 rfl (by kernel_rfl) (fun _ _ _ h => h) rfl rfl rfl rfl rfl ?_
         refine tks 26 rfl (by kernel_rfl) (fun _ _ _ h => h) rfl rfl rfl rfl rfl ?_
         refine tks 27 rfl (by kernel_rfl) (fun _ _ _ h => h) rfl rfl rfl rfl rfl ?_
         refine tksu 28 rfl (by kernel_rfl) (fun _ _ _ h => h) rfl rfl rfl rfl ?_
         refine tksu 29 rfl (by kernel_rfl) (fun _ _ _ h => h) rfl rfl rfl rfl ?_
         refine tksu 30 rfl (by kernel_rfl) (fun _ _ _ h => h) rfl rfl rfl rfl ?_
         refine tksu 31 rfl (by kernel_rfl) (fun _ _ _ h => h) rfl rfl rfl rfl ?_
         refine tksu 32 rfl (by kernel_rfl) (fun _ _ _ h => h) rfl rfl rfl rfl ?_
         refine tksu 33 rfl (by kernel_rfl) (fun _ _ _ h => h) rfl rfl rfl rfl ?_
         refine tksu 34 rfl (by kernel_rfl) (fun _ _ _ h => h) rfl rfl rfl rfl ?_
         refine tksu 35 rfl (by kernel_rfl) (fun _ _ _ h => h) rfl rfl rfl rfl ?_
         refine tksu 36 rfl (by kernel_rfl) (fun _ _ _ h => h) rfl rfl rfl rfl ?_
         refine tksu 37 rfl (by kernel_rfl) (fun _ _ _ h => h) rfl rfl rfl rfl ?_
         refine tksu 38 rfl (by kernel_rfl) (fun _ _ _ h => h) rfl rfl rfl rfl ?_
         refine tksu 39 rfl (by kernel_rfl) (fun _ _ _ h => h) rfl rfl rfl rfl ?_
         refine tks 40 rfl (by kernel_rfl) (fun _ _ _ h => h) rfl rfl rfl rfl rfl ?_
         refine tk 41 rfl (by kernel_rfl) (fun _ _ _ h => h) gnone (TTany _) (p_pickt rfl rfl) rfl ?_
         refine dn (by kernel_rfl) ?_
         refine nthen ?_
         refine cc rfl (fun h => ?_) (fun h => by cases h)
         refine cs ?_
         refine cr ?_
         refine ls (op (p_asg rfl) rfl) ?_
         refine ln ?_
         refine nthen ?_
         refine cret ?_
         refine xret (fun _ _ h => h) ?_
         refine rret (is := []) () (Or.inl rfl) (Res.t rfl Res.d) ?_ rfl (by repeat (first | exact Sub.d | (refine Sub.s ?_ ?_; (repeat (first | exact In.z | apply In.s))) | (refine Sub.suf ?_; (repeat (first | exact Suf.z | apply Suf.s)))))
         simp only [packV]; rw [right_f3 (by rw [hkk]; grind)]
        ·
         refine elC (by repeat (first | exact At.z | apply At.s)) k (List.getElem?_eq_getElem (l := p.deps) hk1) ?_; rintro zbp zop zyp hAp
         refine cd [] [(1, b1, 2, _), (4, zbp, zop + k * Rp.size Int, _), (8, b1, 2, _), (11, zbp, zop + k * Rp.size Int, _), (16, b1, 2, _), (19, zbp, zop + k * Rp.size Int, _), (21, b1, 0, _)] TryzX.mixed (TOk.t (isBoxS (by repeat (first | exact At.z | apply At.s)) (k := 1) (by repeat (first | exact Cut.d | apply Cut.t | apply Cut.s))) (TOk.t (isInS (by repeat (first | exact At.z | apply At.s)) (k := 0) rfl (z := 1) (by repeat (first | exact Cut.d | apply Cut.t | apply Cut.s))) (TOk.t (isBoxS (by repeat (first | exact At.z | apply At.s)) (k := 1) (by repeat (first | exact Cut.d | apply Cut.t | apply Cut.s))) (TOk.t (isInS (by repeat (first | exact At.z | apply At.s)) (k := 0) rfl (z := 1) (by repeat (first | exact Cut.d | apply Cut.t | apply Cut.s))) (TOk.t (isBoxS (by repeat (first | exact At.z | apply At.s)) (k := 1) (by repeat (first | exact Cut.d | apply Cut.t | apply Cut.s))) (TOk.t (isInS (by repeat (first | exact At.z | apply At.s)) (k := 0) rfl (z := 1) (by repeat (first | exact Cut.d | apply Cut.t | apply Cut.s))) (TOk.t (isBoxS (by repeat (first | exact At.z | apply At.s)) (k := 1) (by repeat (first | exact Cut.d | apply Cut.t | apply Cut.s))) TOk.d))))))) ?_
         refine tk 0 rfl (by kernel_rfl) (fun _ _ _ h => h) gnone (TTany _) (p_fa fa25_2 rfl) rfl ?_
         refine tk 1 rfl (by kernel_rfl) (fun _ _ _ h => h) gnone (TTat (List.Mem.head _)) (p_ld Tryz.isAgg22 rfl) rfl ?_
         refine tk 2 rfl (by kernel_rfl) (fun _ _ _ h => h) gnone (TTany _) (p_move rfl) rfl ?_
         refine tk 3 rfl (by kernel_rfl) (fun _ _ _ h => h) gnone (TTany _) (p_ia k hAp hk1 rfl Tryz.underlying22 Tryz.sizeOf3 rfl rfl) rfl ?_
         refine tk 4 rfl (by kernel_rfl) (fun _ _ _ h => h) gnone (TTat (List.Mem.tail _ (List.Mem.head _))) (p_ld Tryz.isAgg3 rfl) rfl ?_
         refine tk 5 rfl (by kernel_rfl) (fun _ _ _ h => h) gnone (TTany _) (p_icmp rfl rfl rfl) rfl ?_
         rw [show decide (p.deps[k] < 1) = false from decide_eq_false g1]
         refine tk 6 rfl (by kernel_rfl) (fun _ _ _ h => h) gnone (TTany _) (p_move rfl) rfl ?_
         refine tk 7 rfl (by kernel_rfl) (fun _ _ _ h => h) (gyes rfl rfl rfl rfl) (TTany _) (gpu (p_fa fa25_2 rfl)) rfl ?_
         refine tk 8 rfl (by kernel_rfl) (fun _ _ _ h => h) (gyes rfl rfl rfl rfl) (TTat (List.Mem.tail _ (List.Mem.tail _ (List.Mem.head _)))) (gpu (p_ld Tryz.isAgg22 rfl)) rfl ?_
         refine tk 9 rfl (by kernel_rfl) (fun _ _ _ h => h) (gyes rfl rfl rfl rfl) (TTany _) (gpu (p_move rfl)) rfl ?_
         refine tk 10 rfl (by kernel_rfl) (fun _ _ _ h => h) (gyes rfl rfl rfl rfl) (TTany _) (gpu (p_ia k hAp hk1 rfl Tryz.underlying22 Tryz.sizeOf3 rfl rfl)) rfl ?_
         refine tk 11 rfl (by kernel_rfl) (fun _ _ _ h => h) (gyes rfl rfl rfl rfl) (TTat (List.Mem.tail _ (List.Mem.tail _ (List.Mem.tail _ (List.Mem.head _))))) (gpu (p_ld Tryz.isAgg3 rfl)) rfl ?_
         refine tk 12 rfl (by kernel_rfl) (fun _ _ _ h => h) (gyes rfl rfl rfl rfl) (TTany _) (gpu (p_icmp rfl rfl rfl)) rfl ?_
         rw [show decide ((1000000000 : Int) < p.deps[k]) = false from decide_eq_false g2]
         refine tk 13 rfl (by kernel_rfl) (fun _ _ _ h => h) gnone (TTany _) (p_pickf rfl rfl) rfl ?_
         refine tk 14 rfl (by kernel_rfl) (fun _ _ _ h => h) gnone (TTany _) (p_move rfl) rfl ?_
         refine tk 15 rfl (by kernel_rfl) (fun _ _ _ h => h) (gyes rfl rfl rfl rfl) (TTany _) (gpu (p_fa fa25_2 rfl)) rfl ?_
         refine tk 16 rfl (by kernel_rfl) (fun _ _ _ h => h) (gyes rfl rfl rfl rfl) (TTat (List.Mem.tail _ (List.Mem.tail _ (List.Mem.tail _ (List.Mem.tail _ (List.Mem.head _)))))) (gpu (p_ld Tryz.isAgg22 rfl)) rfl ?_
         refine tk 17 rfl (by kernel_rfl) (fun _ _ _ h => h) (gyes rfl rfl rfl rfl) (TTany _) (gpu (p_move rfl)) rfl ?_
         refine tk 18 rfl (by kernel_rfl) (fun _ _ _ h => h) (gyes rfl rfl rfl rfl) (TTany _) (gpu (p_ia k hAp hk1 rfl Tryz.underlying22 Tryz.sizeOf3 rfl rfl)) rfl ?_
         refine tk 19 rfl (by kernel_rfl) (fun _ _ _ h => h) (gyes rfl rfl rfl rfl) (TTat (List.Mem.tail _ (List.Mem.tail _ (List.Mem.tail _ (List.Mem.tail _ (List.Mem.tail _ (List.Mem.head _))))))) (gpu (p_ld Tryz.isAgg3 rfl)) rfl ?_
         refine tk 20 rfl (by kernel_rfl) (fun _ _ _ h => h) (gyes rfl rfl rfl rfl) (TTany _) (gpu (p_fa fa25_0 rfl)) rfl ?_
         refine tk 21 rfl (by kernel_rfl) (fun _ _ _ h => h) (gyes rfl rfl rfl rfl) (TTat (List.Mem.tail _ (List.Mem.tail _ (List.Mem.tail _ (List.Mem.tail _ (List.Mem.tail _ (List.Mem.tail _ (List.Mem.head _)))))))) (gpu (p_ld Tryz.isAgg3 rfl)) rfl ?_
         refine tk 22 rfl (by kernel_rfl) (fun _ _ _ h => h) (gyes rfl rfl rfl rfl) (TTany _) (gpu (p_icmp rfl rfl rfl)) rfl ?_
         rw [show decide (p.deps[k] = p.id) = false from decide_eq_false g3]
         refine tk 23 rfl (by kernel_rfl) (fun _ _ _ h => h) gnone (TTany _) (p_pickf rfl rfl) rfl ?_
         refine tk 24 rfl (by kernel_rfl) (fun _ _ _ h => h) gnone (TTany _) (p_move rfl) rfl ?_
         refine tk 25 rfl (by kernel_rfl) (fun _ _ _ h => h) (gyes rfl rfl rfl rfl) (TTany _) (gpu (p_move rfl)) rfl ?_
         refine tk 26 rfl (by kernel_rfl) (fun _ _ _ h => h) (gyes rfl rfl rfl rfl) (TTany _) (gpu (p_icmp rfl rfl rfl)) rfl ?_
         rw [show decide ((0 : Int) < (k : Int)) = false from decide_eq_false (by omega)]
         refine tk 27 rfl (by kernel_rfl) (fun _ _ _ h => h) (gyes rfl rfl rfl rfl) (TTany _) (gpu (p_move rfl)) rfl ?_
         refine tks 28 rfl (by kernel_rfl) (fun _ _ _ h => h) rfl rfl rfl rfl rfl ?_
         refine tks 29 rfl (by kernel_rfl) (fun _ _ _ h => h) rfl rfl rfl rfl rfl ?_
         refine tks 30 rfl (by kernel_rfl) (fun _ _ _ h => h) rfl rfl rfl rfl rfl ?_
         refine tks 31 rfl (by kernel_rfl) (fun _ _ _ h => h) rfl rfl rfl rfl rfl ?_
         refine tks 32 rfl (by kernel_rfl) (fun _ _ _ h => h) rfl rfl rfl rfl rfl ?_
         refine tks 33 rfl (by kernel_rfl) (fun _ _ _ h => h) rfl rfl rfl rfl rfl ?_
         refine tks 34 rfl (by kernel_rfl) (fun _ _ _ h => h) rfl rfl rfl rfl rfl ?_
         refine tks 35 rfl (by kernel_rfl) (fun _ _ _ h => h) rfl rfl rfl rfl rfl ?_
         refine tks 36 rfl (by kernel_rfl) (fun _ _ _ h => h) rfl rfl rfl rfl rfl ?_
         refine tks 37 rfl (by kernel_rfl) (fun _ _ _ h => h) rfl rfl rfl rfl rfl ?_
         refine tks 38 rfl (by kernel_rfl) (fun _ _ _ h => h) rfl rfl rfl rfl rfl ?_
         refine tks 39 rfl (by kernel_rfl) (fun _ _ _ h => h) rfl rfl rfl rfl rfl ?_
         refine tk 40 rfl (by kernel_rfl) (fun _ _ _ h => h) (gyes rfl rfl rfl rfl) (TTany _) (gpu (p_pickf rfl rfl)) rfl ?_
         refine tk 41 rfl (by kernel_rfl) (fun _ _ _ h => h) gnone (TTany _) (p_pickf rfl rfl) rfl ?_
         refine dn (by kernel_rfl) ?_
         refine nthen ?_
         refine cc rfl (fun h => by cases h) (fun h => ?_)
         refine cskip ?_
         refine nblock ?_
         refine nthen ?_
         refine cr ?_
         refine ls (op (p_move rfl) rfl) ?_
         refine ls (op (p_add rfl rfl (by omega)) rfl) ?_
         refine ls (op (p_asg rfl) rfl) ?_
         refine ln ?_
         refine nnext ⟨(k + 1, p.deps[k]), hk1, by rw [hkk]; grind, by dsimp only; omega, fun h => by simp at h, fun _ => List.getElem?_eq_getElem hk1⟩ (by dsimp only; omega) (wk0 (by repeat (first | exact subσ.nil _ | refine subσ.cons rfl ?_)) (by repeat (first | exact Sub.d | (refine Sub.s ?_ ?_; (repeat (first | exact In.z | apply In.s))) | (refine Sub.suf ?_; (repeat (first | exact Suf.z | apply Suf.s))))))
        ·
         have hk2 := hs g4
         refine elC (by repeat (first | exact At.z | apply At.s)) (k - 1) (hk2) ?_; rintro zbq zoq zyq hAq
         refine elC (by repeat (first | exact At.z | apply At.s)) k (List.getElem?_eq_getElem (l := p.deps) hk1) ?_; rintro zbp zop zyp hAp
         refine cd [] [(1, b1, 2, _), (4, zbp, zop + k * Rp.size Int, _), (8, b1, 2, _), (11, zbp, zop + k * Rp.size Int, _), (16, b1, 2, _), (19, zbp, zop + k * Rp.size Int, _), (21, b1, 0, _), (29, b1, 2, _), (32, zbp, zop + k * Rp.size Int, _), (34, b1, 2, _), (38, zbq, zoq + (k - 1) * Rp.size Int, _)] TryzX.mixed (TOk.t (isBoxS (by repeat (first | exact At.z | apply At.s)) (k := 1) (by repeat (first | exact Cut.d | apply Cut.t | apply Cut.s))) (TOk.t (isInS (by repeat (first | exact At.z | apply At.s)) (k := 0) rfl (z := 1) (by repeat (first | exact Cut.d | apply Cut.t | apply Cut.s))) (TOk.t (isBoxS (by repeat (first | exact At.z | apply At.s)) (k := 1) (by repeat (first | exact Cut.d | apply Cut.t | apply Cut.s))) (TOk.t (isInS (by repeat (first | exact At.z | apply At.s)) (k := 0) rfl (z := 1) (by repeat (first | exact Cut.d | apply Cut.t | apply Cut.s))) (TOk.t (isBoxS (by repeat (first | exact At.z | apply At.s)) (k := 1) (by repeat (first | exact Cut.d | apply Cut.t | apply Cut.s))) (TOk.t (isInS (by repeat (first | exact At.z | apply At.s)) (k := 0) rfl (z := 1) (by repeat (first | exact Cut.d | apply Cut.t | apply Cut.s))) (TOk.t (isBoxS (by repeat (first | exact At.z | apply At.s)) (k := 1) (by repeat (first | exact Cut.d | apply Cut.t | apply Cut.s))) (TOk.t (isBoxS (by repeat (first | exact At.z | apply At.s)) (k := 1) (by repeat (first | exact Cut.d | apply Cut.t | apply Cut.s))) (TOk.t (isInS (by repeat (first | exact At.z | apply At.s)) (k := 0) rfl (z := 1) (by repeat (first | exact Cut.d | apply Cut.t | apply Cut.s))) (TOk.t (isBoxS (by repeat (first | exact At.z | apply At.s)) (k := 1) (by repeat (first | exact Cut.d | apply Cut.t | apply Cut.s))) (TOk.t (isInS (by repeat (first | exact At.z | apply At.s)) (k := 0) rfl (z := 1) (by repeat (first | exact Cut.d | apply Cut.t | apply Cut.s))) TOk.d))))))))))) ?_
         refine tk 0 rfl (by kernel_rfl) (fun _ _ _ h => h) gnone (TTany _) (p_fa fa25_2 rfl) rfl ?_
         refine tk 1 rfl (by kernel_rfl) (fun _ _ _ h => h) gnone (TTat (List.Mem.head _)) (p_ld Tryz.isAgg22 rfl) rfl ?_
         refine tk 2 rfl (by kernel_rfl) (fun _ _ _ h => h) gnone (TTany _) (p_move rfl) rfl ?_
         refine tk 3 rfl (by kernel_rfl) (fun _ _ _ h => h) gnone (TTany _) (p_ia k hAp hk1 rfl Tryz.underlying22 Tryz.sizeOf3 rfl rfl) rfl ?_
         refine tk 4 rfl (by kernel_rfl) (fun _ _ _ h => h) gnone (TTat (List.Mem.tail _ (List.Mem.head _))) (p_ld Tryz.isAgg3 rfl) rfl ?_
         refine tk 5 rfl (by kernel_rfl) (fun _ _ _ h => h) gnone (TTany _) (p_icmp rfl rfl rfl) rfl ?_
         rw [show decide (p.deps[k] < 1) = false from decide_eq_false g1]
         refine tk 6 rfl (by kernel_rfl) (fun _ _ _ h => h) gnone (TTany _) (p_move rfl) rfl ?_
         refine tk 7 rfl (by kernel_rfl) (fun _ _ _ h => h) (gyes rfl rfl rfl rfl) (TTany _) (gpu (p_fa fa25_2 rfl)) rfl ?_
         refine tk 8 rfl (by kernel_rfl) (fun _ _ _ h => h) (gyes rfl rfl rfl rfl) (TTat (List.Mem.tail _ (List.Mem.tail _ (List.Mem.head _)))) (gpu (p_ld Tryz.isAgg22 rfl)) rfl ?_
         refine tk 9 rfl (by kernel_rfl) (fun _ _ _ h => h) (gyes rfl rfl rfl rfl) (TTany _) (gpu (p_move rfl)) rfl ?_
         refine tk 10 rfl (by kernel_rfl) (fun _ _ _ h => h) (gyes rfl rfl rfl rfl) (TTany _) (gpu (p_ia k hAp hk1 rfl Tryz.underlying22 Tryz.sizeOf3 rfl rfl)) rfl ?_
         refine tk 11 rfl (by kernel_rfl) (fun _ _ _ h => h) (gyes rfl rfl rfl rfl) (TTat (List.Mem.tail _ (List.Mem.tail _ (List.Mem.tail _ (List.Mem.head _))))) (gpu (p_ld Tryz.isAgg3 rfl)) rfl ?_
         refine tk 12 rfl (by kernel_rfl) (fun _ _ _ h => h) (gyes rfl rfl rfl rfl) (TTany _) (gpu (p_icmp rfl rfl rfl)) rfl ?_
         rw [show decide ((1000000000 : Int) < p.deps[k]) = false from decide_eq_false g2]
         refine tk 13 rfl (by kernel_rfl) (fun _ _ _ h => h) gnone (TTany _) (p_pickf rfl rfl) rfl ?_
         refine tk 14 rfl (by kernel_rfl) (fun _ _ _ h => h) gnone (TTany _) (p_move rfl) rfl ?_
         refine tk 15 rfl (by kernel_rfl) (fun _ _ _ h => h) (gyes rfl rfl rfl rfl) (TTany _) (gpu (p_fa fa25_2 rfl)) rfl ?_
         refine tk 16 rfl (by kernel_rfl) (fun _ _ _ h => h) (gyes rfl rfl rfl rfl) (TTat (List.Mem.tail _ (List.Mem.tail _ (List.Mem.tail _ (List.Mem.tail _ (List.Mem.head _)))))) (gpu (p_ld Tryz.isAgg22 rfl)) rfl ?_
         refine tk 17 rfl (by kernel_rfl) (fun _ _ _ h => h) (gyes rfl rfl rfl rfl) (TTany _) (gpu (p_move rfl)) rfl ?_
         refine tk 18 rfl (by kernel_rfl) (fun _ _ _ h => h) (gyes rfl rfl rfl rfl) (TTany _) (gpu (p_ia k hAp hk1 rfl Tryz.underlying22 Tryz.sizeOf3 rfl rfl)) rfl ?_
         refine tk 19 rfl (by kernel_rfl) (fun _ _ _ h => h) (gyes rfl rfl rfl rfl) (TTat (List.Mem.tail _ (List.Mem.tail _ (List.Mem.tail _ (List.Mem.tail _ (List.Mem.tail _ (List.Mem.head _))))))) (gpu (p_ld Tryz.isAgg3 rfl)) rfl ?_
         refine tk 20 rfl (by kernel_rfl) (fun _ _ _ h => h) (gyes rfl rfl rfl rfl) (TTany _) (gpu (p_fa fa25_0 rfl)) rfl ?_
         refine tk 21 rfl (by kernel_rfl) (fun _ _ _ h => h) (gyes rfl rfl rfl rfl) (TTat (List.Mem.tail _ (List.Mem.tail _ (List.Mem.tail _ (List.Mem.tail _ (List.Mem.tail _ (List.Mem.tail _ (List.Mem.head _)))))))) (gpu (p_ld Tryz.isAgg3 rfl)) rfl ?_
         refine tk 22 rfl (by kernel_rfl) (fun _ _ _ h => h) (gyes rfl rfl rfl rfl) (TTany _) (gpu (p_icmp rfl rfl rfl)) rfl ?_
         rw [show decide (p.deps[k] = p.id) = false from decide_eq_false g3]
         refine tk 23 rfl (by kernel_rfl) (fun _ _ _ h => h) gnone (TTany _) (p_pickf rfl rfl) rfl ?_
         refine tk 24 rfl (by kernel_rfl) (fun _ _ _ h => h) gnone (TTany _) (p_move rfl) rfl ?_
         refine tk 25 rfl (by kernel_rfl) (fun _ _ _ h => h) (gyes rfl rfl rfl rfl) (TTany _) (gpu (p_move rfl)) rfl ?_
         refine tk 26 rfl (by kernel_rfl) (fun _ _ _ h => h) (gyes rfl rfl rfl rfl) (TTany _) (gpu (p_icmp rfl rfl rfl)) rfl ?_
         rw [show decide ((0 : Int) < (k : Int)) = true from decide_eq_true (by omega)]
         refine tk 27 rfl (by kernel_rfl) (fun _ _ _ h => h) (gyes rfl rfl rfl rfl) (TTany _) (gpu (p_move rfl)) rfl ?_
         refine tk 28 rfl (by kernel_rfl) (fun _ _ _ h => h) (gyes rfl rfl rfl rfl) (TTany _) (gpu (p_fa fa25_2 rfl)) rfl ?_
         refine tk 29 rfl (by kernel_rfl) (fun _ _ _ h => h) (gyes rfl rfl rfl rfl) (TTat (List.Mem.tail _ (List.Mem.tail _ (List.Mem.tail _ (List.Mem.tail _ (List.Mem.tail _ (List.Mem.tail _ (List.Mem.tail _ (List.Mem.head _))))))))) (gpu (p_ld Tryz.isAgg22 rfl)) rfl ?_
         refine tk 30 rfl (by kernel_rfl) (fun _ _ _ h => h) (gyes rfl rfl rfl rfl) (TTany _) (gpu (p_move rfl)) rfl ?_
         refine tk 31 rfl (by kernel_rfl) (fun _ _ _ h => h) (gyes rfl rfl rfl rfl) (TTany _) (gpu (p_ia k hAp hk1 rfl Tryz.underlying22 Tryz.sizeOf3 rfl rfl)) rfl ?_
         refine tk 32 rfl (by kernel_rfl) (fun _ _ _ h => h) (gyes rfl rfl rfl rfl) (TTat (List.Mem.tail _ (List.Mem.tail _ (List.Mem.tail _ (List.Mem.tail _ (List.Mem.tail _ (List.Mem.tail _ (List.Mem.tail _ (List.Mem.tail _ (List.Mem.head _)))))))))) (gpu (p_ld Tryz.isAgg3 rfl)) rfl ?_
         refine tk 33 rfl (by kernel_rfl) (fun _ _ _ h => h) (gyes rfl rfl rfl rfl) (TTany _) (gpu (p_fa fa25_2 rfl)) rfl ?_
         refine tk 34 rfl (by kernel_rfl) (fun _ _ _ h => h) (gyes rfl rfl rfl rfl) (TTat (List.Mem.tail _ (List.Mem.tail _ (List.Mem.tail _ (List.Mem.tail _ (List.Mem.tail _ (List.Mem.tail _ (List.Mem.tail _ (List.Mem.tail _ (List.Mem.tail _ (List.Mem.head _))))))))))) (gpu (p_ld Tryz.isAgg22 rfl)) rfl ?_
         refine tk 35 rfl (by kernel_rfl) (fun _ _ _ h => h) (gyes rfl rfl rfl rfl) (TTany _) (gpu (p_move rfl)) rfl ?_
         refine tk 36 rfl (by kernel_rfl) (fun _ _ _ h => h) (gyes rfl rfl rfl rfl) (TTany _) (gpu (p_sub rfl rfl (by omega))) rfl ?_
         refine tk 37 rfl (by kernel_rfl) (fun _ _ _ h => h) (gyes rfl rfl rfl rfl) (TTany _) (gpu (p_ia (k - 1) hAq (by omega) (by omega) Tryz.underlying22 Tryz.sizeOf3 rfl rfl)) rfl ?_
         refine tk 38 rfl (by kernel_rfl) (fun _ _ _ h => h) (gyes rfl rfl rfl rfl) (TTat (List.Mem.tail _ (List.Mem.tail _ (List.Mem.tail _ (List.Mem.tail _ (List.Mem.tail _ (List.Mem.tail _ (List.Mem.tail _ (List.Mem.tail _ (List.Mem.tail _ (List.Mem.tail _ (List.Mem.head _)))))))))))) (gpu (p_ld Tryz.isAgg3 rfl)) rfl ?_
         refine tk 39 rfl (by kernel_rfl) (fun _ _ _ h => h) (gyes rfl rfl rfl rfl) (TTany _) (gpu (p_icmp rfl rfl rfl)) rfl ?_
         rw [show decide (p.deps[k] ≤ la) = true from decide_eq_true g5]
         refine tk 40 rfl (by kernel_rfl) (fun _ _ _ h => h) (gyes rfl rfl rfl rfl) (TTany _) (gpu (p_pickt rfl rfl)) rfl ?_
         refine tk 41 rfl (by kernel_rfl) (fun _ _ _ h => h) gnone (TTany _) (p_pickf rfl rfl) rfl ?_
         refine dn (by kernel_rfl) ?_
         refine nthen ?_
         refine cc rfl (fun h => ?_) (fun h => by cases h)
         refine cs ?_
         refine cr ?_
         refine ls (op (p_asg rfl) rfl) ?_
         refine ln ?_
         refine nthen ?_
         refine cret ?_
         refine xret (fun _ _ h => h) ?_
         refine rret (is := []) () (Or.inl rfl) (Res.t rfl Res.d) ?_ rfl (by repeat (first | exact Sub.d | (refine Sub.s ?_ ?_; (repeat (first | exact In.z | apply In.s))) | (refine Sub.suf ?_; (repeat (first | exact Suf.z | apply Suf.s)))))
         simp only [packV]; rw [right_f3 (by rw [hkk]; grind)]
        ·
         have hk2 := hs g4
         refine elC (by repeat (first | exact At.z | apply At.s)) (k - 1) (hk2) ?_; rintro zbq zoq zyq hAq
         refine elC (by repeat (first | exact At.z | apply At.s)) k (List.getElem?_eq_getElem (l := p.deps) hk1) ?_; rintro zbp zop zyp hAp
         refine cd [] [(1, b1, 2, _), (4, zbp, zop + k * Rp.size Int, _), (8, b1, 2, _), (11, zbp, zop + k * Rp.size Int, _), (16, b1, 2, _), (19, zbp, zop + k * Rp.size Int, _), (21, b1, 0, _), (29, b1, 2, _), (32, zbp, zop + k * Rp.size Int, _), (34, b1, 2, _), (38, zbq, zoq + (k - 1) * Rp.size Int, _)] TryzX.mixed (TOk.t (isBoxS (by repeat (first | exact At.z | apply At.s)) (k := 1) (by repeat (first | exact Cut.d | apply Cut.t | apply Cut.s))) (TOk.t (isInS (by repeat (first | exact At.z | apply At.s)) (k := 0) rfl (z := 1) (by repeat (first | exact Cut.d | apply Cut.t | apply Cut.s))) (TOk.t (isBoxS (by repeat (first | exact At.z | apply At.s)) (k := 1) (by repeat (first | exact Cut.d | apply Cut.t | apply Cut.s))) (TOk.t (isInS (by repeat (first | exact At.z | apply At.s)) (k := 0) rfl (z := 1) (by repeat (first | exact Cut.d | apply Cut.t | apply Cut.s))) (TOk.t (isBoxS (by repeat (first | exact At.z | apply At.s)) (k := 1) (by repeat (first | exact Cut.d | apply Cut.t | apply Cut.s))) (TOk.t (isInS (by repeat (first | exact At.z | apply At.s)) (k := 0) rfl (z := 1) (by repeat (first | exact Cut.d | apply Cut.t | apply Cut.s))) (TOk.t (isBoxS (by repeat (first | exact At.z | apply At.s)) (k := 1) (by repeat (first | exact Cut.d | apply Cut.t | apply Cut.s))) (TOk.t (isBoxS (by repeat (first | exact At.z | apply At.s)) (k := 1) (by repeat (first | exact Cut.d | apply Cut.t | apply Cut.s))) (TOk.t (isInS (by repeat (first | exact At.z | apply At.s)) (k := 0) rfl (z := 1) (by repeat (first | exact Cut.d | apply Cut.t | apply Cut.s))) (TOk.t (isBoxS (by repeat (first | exact At.z | apply At.s)) (k := 1) (by repeat (first | exact Cut.d | apply Cut.t | apply Cut.s))) (TOk.t (isInS (by repeat (first | exact At.z | apply At.s)) (k := 0) rfl (z := 1) (by repeat (first | exact Cut.d | apply Cut.t | apply Cut.s))) TOk.d))))))))))) ?_
         refine tk 0 rfl (by kernel_rfl) (fun _ _ _ h => h) gnone (TTany _) (p_fa fa25_2 rfl) rfl ?_
         refine tk 1 rfl (by kernel_rfl) (fun _ _ _ h => h) gnone (TTat (List.Mem.head _)) (p_ld Tryz.isAgg22 rfl) rfl ?_
         refine tk 2 rfl (by kernel_rfl) (fun _ _ _ h => h) gnone (TTany _) (p_move rfl) rfl ?_
         refine tk 3 rfl (by kernel_rfl) (fun _ _ _ h => h) gnone (TTany _) (p_ia k hAp hk1 rfl Tryz.underlying22 Tryz.sizeOf3 rfl rfl) rfl ?_
         refine tk 4 rfl (by kernel_rfl) (fun _ _ _ h => h) gnone (TTat (List.Mem.tail _ (List.Mem.head _))) (p_ld Tryz.isAgg3 rfl) rfl ?_
         refine tk 5 rfl (by kernel_rfl) (fun _ _ _ h => h) gnone (TTany _) (p_icmp rfl rfl rfl) rfl ?_
         rw [show decide (p.deps[k] < 1) = false from decide_eq_false g1]
         refine tk 6 rfl (by kernel_rfl) (fun _ _ _ h => h) gnone (TTany _) (p_move rfl) rfl ?_
         refine tk 7 rfl (by kernel_rfl) (fun _ _ _ h => h) (gyes rfl rfl rfl rfl) (TTany _) (gpu (p_fa fa25_2 rfl)) rfl ?_
         refine tk 8 rfl (by kernel_rfl) (fun _ _ _ h => h) (gyes rfl rfl rfl rfl) (TTat (List.Mem.tail _ (List.Mem.tail _ (List.Mem.head _)))) (gpu (p_ld Tryz.isAgg22 rfl)) rfl ?_
         refine tk 9 rfl (by kernel_rfl) (fun _ _ _ h => h) (gyes rfl rfl rfl rfl) (TTany _) (gpu (p_move rfl)) rfl ?_
         refine tk 10 rfl (by kernel_rfl) (fun _ _ _ h => h) (gyes rfl rfl rfl rfl) (TTany _) (gpu (p_ia k hAp hk1 rfl Tryz.underlying22 Tryz.sizeOf3 rfl rfl)) rfl ?_
         refine tk 11 rfl (by kernel_rfl) (fun _ _ _ h => h) (gyes rfl rfl rfl rfl) (TTat (List.Mem.tail _ (List.Mem.tail _ (List.Mem.tail _ (List.Mem.head _))))) (gpu (p_ld Tryz.isAgg3 rfl)) rfl ?_
         refine tk 12 rfl (by kernel_rfl) (fun _ _ _ h => h) (gyes rfl rfl rfl rfl) (TTany _) (gpu (p_icmp rfl rfl rfl)) rfl ?_
         rw [show decide ((1000000000 : Int) < p.deps[k]) = false from decide_eq_false g2]
         refine tk 13 rfl (by kernel_rfl) (fun _ _ _ h => h) gnone (TTany _) (p_pickf rfl rfl) rfl ?_
         refine tk 14 rfl (by kernel_rfl) (fun _ _ _ h => h) gnone (TTany _) (p_move rfl) rfl ?_
         refine tk 15 rfl (by kernel_rfl) (fun _ _ _ h => h) (gyes rfl rfl rfl rfl) (TTany _) (gpu (p_fa fa25_2 rfl)) rfl ?_
         refine tk 16 rfl (by kernel_rfl) (fun _ _ _ h => h) (gyes rfl rfl rfl rfl) (TTat (List.Mem.tail _ (List.Mem.tail _ (List.Mem.tail _ (List.Mem.tail _ (List.Mem.head _)))))) (gpu (p_ld Tryz.isAgg22 rfl)) rfl ?_
         refine tk 17 rfl (by kernel_rfl) (fun _ _ _ h => h) (gyes rfl rfl rfl rfl) (TTany _) (gpu (p_move rfl)) rfl ?_
         refine tk 18 rfl (by kernel_rfl) (fun _ _ _ h => h) (gyes rfl rfl rfl rfl) (TTany _) (gpu (p_ia k hAp hk1 rfl Tryz.underlying22 Tryz.sizeOf3 rfl rfl)) rfl ?_
         refine tk 19 rfl (by kernel_rfl) (fun _ _ _ h => h) (gyes rfl rfl rfl rfl) (TTat (List.Mem.tail _ (List.Mem.tail _ (List.Mem.tail _ (List.Mem.tail _ (List.Mem.tail _ (List.Mem.head _))))))) (gpu (p_ld Tryz.isAgg3 rfl)) rfl ?_
         refine tk 20 rfl (by kernel_rfl) (fun _ _ _ h => h) (gyes rfl rfl rfl rfl) (TTany _) (gpu (p_fa fa25_0 rfl)) rfl ?_
         refine tk 21 rfl (by kernel_rfl) (fun _ _ _ h => h) (gyes rfl rfl rfl rfl) (TTat (List.Mem.tail _ (List.Mem.tail _ (List.Mem.tail _ (List.Mem.tail _ (List.Mem.tail _ (List.Mem.tail _ (List.Mem.head _)))))))) (gpu (p_ld Tryz.isAgg3 rfl)) rfl ?_
         refine tk 22 rfl (by kernel_rfl) (fun _ _ _ h => h) (gyes rfl rfl rfl rfl) (TTany _) (gpu (p_icmp rfl rfl rfl)) rfl ?_
         rw [show decide (p.deps[k] = p.id) = false from decide_eq_false g3]
         refine tk 23 rfl (by kernel_rfl) (fun _ _ _ h => h) gnone (TTany _) (p_pickf rfl rfl) rfl ?_
         refine tk 24 rfl (by kernel_rfl) (fun _ _ _ h => h) gnone (TTany _) (p_move rfl) rfl ?_
         refine tk 25 rfl (by kernel_rfl) (fun _ _ _ h => h) (gyes rfl rfl rfl rfl) (TTany _) (gpu (p_move rfl)) rfl ?_
         refine tk 26 rfl (by kernel_rfl) (fun _ _ _ h => h) (gyes rfl rfl rfl rfl) (TTany _) (gpu (p_icmp rfl rfl rfl)) rfl ?_
         rw [show decide ((0 : Int) < (k : Int)) = true from decide_eq_true (by omega)]
         refine tk 27 rfl (by kernel_rfl) (fun _ _ _ h => h) (gyes rfl rfl rfl rfl) (TTany _) (gpu (p_move rfl)) rfl ?_
         refine tk 28 rfl (by kernel_rfl) (fun _ _ _ h => h) (gyes rfl rfl rfl rfl) (TTany _) (gpu (p_fa fa25_2 rfl)) rfl ?_
         refine tk 29 rfl (by kernel_rfl) (fun _ _ _ h => h) (gyes rfl rfl rfl rfl) (TTat (List.Mem.tail _ (List.Mem.tail _ (List.Mem.tail _ (List.Mem.tail _ (List.Mem.tail _ (List.Mem.tail _ (List.Mem.tail _ (List.Mem.head _))))))))) (gpu (p_ld Tryz.isAgg22 rfl)) rfl ?_
         refine tk 30 rfl (by kernel_rfl) (fun _ _ _ h => h) (gyes rfl rfl rfl rfl) (TTany _) (gpu (p_move rfl)) rfl ?_
         refine tk 31 rfl (by kernel_rfl) (fun _ _ _ h => h) (gyes rfl rfl rfl rfl) (TTany _) (gpu (p_ia k hAp hk1 rfl Tryz.underlying22 Tryz.sizeOf3 rfl rfl)) rfl ?_
         refine tk 32 rfl (by kernel_rfl) (fun _ _ _ h => h) (gyes rfl rfl rfl rfl) (TTat (List.Mem.tail _ (List.Mem.tail _ (List.Mem.tail _ (List.Mem.tail _ (List.Mem.tail _ (List.Mem.tail _ (List.Mem.tail _ (List.Mem.tail _ (List.Mem.head _)))))))))) (gpu (p_ld Tryz.isAgg3 rfl)) rfl ?_
         refine tk 33 rfl (by kernel_rfl) (fun _ _ _ h => h) (gyes rfl rfl rfl rfl) (TTany _) (gpu (p_fa fa25_2 rfl)) rfl ?_
         refine tk 34 rfl (by kernel_rfl) (fun _ _ _ h => h) (gyes rfl rfl rfl rfl) (TTat (List.Mem.tail _ (List.Mem.tail _ (List.Mem.tail _ (List.Mem.tail _ (List.Mem.tail _ (List.Mem.tail _ (List.Mem.tail _ (List.Mem.tail _ (List.Mem.tail _ (List.Mem.head _))))))))))) (gpu (p_ld Tryz.isAgg22 rfl)) rfl ?_
         refine tk 35 rfl (by kernel_rfl) (fun _ _ _ h => h) (gyes rfl rfl rfl rfl) (TTany _) (gpu (p_move rfl)) rfl ?_
         refine tk 36 rfl (by kernel_rfl) (fun _ _ _ h => h) (gyes rfl rfl rfl rfl) (TTany _) (gpu (p_sub rfl rfl (by omega))) rfl ?_
         refine tk 37 rfl (by kernel_rfl) (fun _ _ _ h => h) (gyes rfl rfl rfl rfl) (TTany _) (gpu (p_ia (k - 1) hAq (by omega) (by omega) Tryz.underlying22 Tryz.sizeOf3 rfl rfl)) rfl ?_
         refine tk 38 rfl (by kernel_rfl) (fun _ _ _ h => h) (gyes rfl rfl rfl rfl) (TTat (List.Mem.tail _ (List.Mem.tail _ (List.Mem.tail _ (List.Mem.tail _ (List.Mem.tail _ (List.Mem.tail _ (List.Mem.tail _ (List.Mem.tail _ (List.Mem.tail _ (List.Mem.tail _ (List.Mem.head _)))))))))))) (gpu (p_ld Tryz.isAgg3 rfl)) rfl ?_
         refine tk 39 rfl (by kernel_rfl) (fun _ _ _ h => h) (gyes rfl rfl rfl rfl) (TTany _) (gpu (p_icmp rfl rfl rfl)) rfl ?_
         rw [show decide (p.deps[k] ≤ la) = false from decide_eq_false g5]
         refine tk 40 rfl (by kernel_rfl) (fun _ _ _ h => h) (gyes rfl rfl rfl rfl) (TTany _) (gpu (p_pickt rfl rfl)) rfl ?_
         refine tk 41 rfl (by kernel_rfl) (fun _ _ _ h => h) gnone (TTany _) (p_pickf rfl rfl) rfl ?_
         refine dn (by kernel_rfl) ?_
         refine nthen ?_
         refine cc rfl (fun h => by cases h) (fun h => ?_)
         refine cskip ?_
         refine nblock ?_
         refine nthen ?_
         refine cr ?_
         refine ls (op (p_move rfl) rfl) ?_
         refine ls (op (p_add rfl rfl (by omega)) rfl) ?_
         refine ls (op (p_asg rfl) rfl) ?_
         refine ln ?_
         refine nnext ⟨(k + 1, p.deps[k]), hk1, by rw [hkk]; grind, by dsimp only; omega, fun h => by simp at h, fun _ => List.getElem?_eq_getElem hk1⟩ (by dsimp only; omega) (wk0 (by repeat (first | exact subσ.nil _ | refine subσ.cons rfl ?_)) (by repeat (first | exact Sub.d | (refine Sub.s ?_ ?_; (repeat (first | exact In.z | apply In.s))) | (refine Sub.suf ?_; (repeat (first | exact Suf.z | apply Suf.s))))))
       ·
        intro h40
        dsimp only at hk hkk hz hz0 hs
        try simp only [decide_eq_true_eq, decide_eq_false_iff_not, Bool.not_eq_true', Bool.not_eq_false', Int.not_lt, Int.not_le, ge_iff_le, Bool.not_true, Bool.not_false] at h40
        refine cexit ?_
        refine xthen ?_
        refine xthen ?_
        refine xblock ?_
        refine nthen ?_
        refine cs ?_
        refine cr ?_
        refine ls (op (p_fa fa25_3 rfl) rfl) ?_
        refine ls (o_ld Tryz.isAgg23 rfl (by repeat (first | exact At.z | apply At.s)) (by repeat (first | exact At.z | apply At.s)) rfl) ?_
        refine ls (o_call (is := []) Tryz.call40 (c_ref5Right p.l _ _ hp.ll hp.lf) rfl rfl (by repeat (first | exact Sub.d | (refine Sub.s ?_ ?_; (repeat (first | exact In.z | apply In.s))) | (refine Sub.suf ?_; (repeat (first | exact Suf.z | apply Suf.s))))) rfl) ?_
        refine le ?_; intro x87
        refine ls (op (p_asg rfl) rfl) ?_
        refine ln ?_
        refine nthen ?_
        refine cret ?_
        refine xret (fun _ _ h => h) ?_
        refine rret (is := []) () (Or.inl rfl) (Res.t rfl Res.d) ?_ rfl (by repeat (first | exact Sub.d | (refine Sub.s ?_ ?_; (repeat (first | exact In.z | apply In.s))) | (refine Sub.suf ?_; (repeat (first | exact Suf.z | apply Suf.s)))))
        simp only [packV]; rw [right_g2 h35 (by rw [hkk, List.drop_eq_nil_of_le (by omega)]; rfl)]

set_option maxRecDepth 100000 in
theorem c_rOn (p : Patch) (y : Rp.Lay Patch) (hp : p.fit) (v : Int) : Con Tryz.prog 47 [sv p y, .int .i64 v] [] [slA y.1.1 p.deps, slA y.2.1 p.l] Unit (fun _ => .bool (p.deps.any fun s => decide (s = v))) (fun _ => []) (fun _ => []) := by
 refine con Tryz.func47 rfl Tryz.ntmps47 rfl ?_
 intro M0 F0 w0
 refine cs ?_
 refine cr ?_
 refine ls (o_box rfl rfl rfl) ?_
 refine le ?_; intro b2
 refine ls (op (p_asg rfl) rfl) ?_
 refine ln ?_
 refine nthen ?_
 refine cs ?_
 refine cs ?_
 have hdl := hp.dl
 refine cr ?_
 refine ls (op (p_asg rfl) rfl) ?_
 refine ln ?_
 refine nthen ?_
 refine cb ?_
 refine cl (ι := {k : Nat // k ≤ p.deps.length ∧ ((p.deps.take k).any fun s => decide (s = v)) = false}) (fun i => St M0 F0 w0 20 [(1, .int .i64 v), (2, .pointer (some ⟨b2, 0, none⟩)), (5, .int .i64 (i.1 : Int))] [box b2 25 (Rp.enc p y)] [slA y.1.1 p.deps, slA y.2.1 p.l]) (fun i => p.deps.length - i.1) ⟨0, by simp⟩ (wk0 (by repeat (first | exact subσ.nil _ | refine subσ.cons rfl ?_)) (by repeat (first | exact Sub.d | (refine Sub.s ?_ ?_; (repeat (first | exact In.z | apply In.s))) | (refine Sub.suf ?_; (repeat (first | exact Suf.z | apply Suf.s)))))) ?_
 rintro ⟨k, hk, hkk⟩
 refine cmono (S' := St M0 F0 w0 20 [(1, .int .i64 v), (2, .pointer (some ⟨b2, 0, none⟩)), (5, .int .i64 (k : Int))] [box b2 25 (Rp.enc p y)] [slA y.1.1 p.deps, slA y.2.1 p.l]) (fun _ _ h => h) ?_
 refine cs ?_
 refine cs ?_
 refine cr ?_
 refine ls (op (p_move rfl) rfl) ?_
 refine ls (op (p_fa fa25_2 rfl) rfl) ?_
 refine ls (o_ld Tryz.isAgg22 rfl (by repeat (first | exact At.z | apply At.s)) (by repeat (first | exact At.z | apply At.s)) rfl) ?_
 refine ls (op (p_lenl rfl Tryz.underlying22) rfl) ?_
 refine ls (op (p_icmp rfl rfl rfl) rfl) ?_
 refine ln ?_
 refine nthen ?_
 refine cc rfl ?_ ?_
 ·
  intro h10
  try simp only [decide_eq_true_eq, decide_eq_false_iff_not, Bool.not_eq_true', Bool.not_eq_false', Int.not_lt, Int.not_le, ge_iff_le, Bool.not_true, Bool.not_false] at h10
  have hk1 : k < p.deps.length := by omega
  refine cskip ?_
  refine nthen ?_
  refine cs ?_
  refine cb ?_
  refine cs ?_
  refine elC (by repeat (first | exact At.z | apply At.s)) k (List.getElem?_eq_getElem (l := p.deps) hk1) ?_; rintro zbp zop zyp hAp
  refine cr ?_
  refine ls (op (p_fa fa25_2 rfl) rfl) ?_
  refine ls (o_ld Tryz.isAgg22 rfl (by repeat (first | exact At.z | apply At.s)) (by repeat (first | exact At.z | apply At.s)) rfl) ?_
  refine ls (op (p_move rfl) rfl) ?_
  refine ls (op (p_ia k hAp hk1 rfl Tryz.underlying22 Tryz.sizeOf3 rfl rfl) rfl) ?_
  refine ls (o_ldi Tryz.isAgg3 rfl (by repeat (first | exact At.z | apply At.s)) 0 rfl (by repeat (first | exact Cut.d | apply Cut.t | apply Cut.s)) rfl) ?_
  refine ls (op (p_move rfl) rfl) ?_
  refine ls (op (p_icmp rfl rfl rfl) rfl) ?_
  refine ln ?_
  refine nthen ?_
  refine cc rfl ?_ ?_
  ·
   intro h19
   try simp only [decide_eq_true_eq, decide_eq_false_iff_not, Bool.not_eq_true', Bool.not_eq_false', Int.not_lt, Int.not_le, ge_iff_le, Bool.not_true, Bool.not_false] at h19
   refine cs ?_
   refine cr ?_
   refine ls (op (p_asg rfl) rfl) ?_
   refine ln ?_
   refine nthen ?_
   refine cret ?_
   refine xret (fun _ _ h => h) ?_
   refine rret (is := []) () (Or.inl rfl) (Res.t rfl Res.d) ?_ rfl (by repeat (first | exact Sub.d | (refine Sub.s ?_ ?_; (repeat (first | exact In.z | apply In.s))) | (refine Sub.suf ?_; (repeat (first | exact Suf.z | apply Suf.s)))))
   simp only [packV]; congr 1; symm; rw [List.any_eq_true]; exact ⟨_, List.getElem_mem hk1, by simp [h19]⟩
  ·
   intro h19
   try simp only [decide_eq_true_eq, decide_eq_false_iff_not, Bool.not_eq_true', Bool.not_eq_false', Int.not_lt, Int.not_le, ge_iff_le, Bool.not_true, Bool.not_false] at h19
   refine cskip ?_
   refine nblock ?_
   refine nthen ?_
   refine cr ?_
   refine ls (op (p_move rfl) rfl) ?_
   refine ls (op (p_add rfl rfl (by omega)) rfl) ?_
   refine ls (op (p_asg rfl) rfl) ?_
   refine ln ?_
   refine nnext ⟨k + 1, hk1, by rw [List.take_succ_eq_append_getElem hk1, List.any_append, hkk]; simp [h19]⟩ (by dsimp only; omega) (wk0 (by repeat (first | exact subσ.nil _ | refine subσ.cons rfl ?_)) (by repeat (first | exact Sub.d | (refine Sub.s ?_ ?_; (repeat (first | exact In.z | apply In.s))) | (refine Sub.suf ?_; (repeat (first | exact Suf.z | apply Suf.s))))))
 ·
  intro h10
  try simp only [decide_eq_true_eq, decide_eq_false_iff_not, Bool.not_eq_true', Bool.not_eq_false', Int.not_lt, Int.not_le, ge_iff_le, Bool.not_true, Bool.not_false] at h10
  refine cexit ?_
  refine xthen ?_
  refine xthen ?_
  refine xblock ?_
  refine nthen ?_
  refine cs ?_
  refine cr ?_
  refine ls (op (p_asg rfl) rfl) ?_
  refine ln ?_
  refine nthen ?_
  refine cret ?_
  refine xret (fun _ _ h => h) ?_
  refine rret (is := []) () (Or.inl rfl) (Res.t rfl Res.d) ?_ rfl (by repeat (first | exact Sub.d | (refine Sub.s ?_ ?_; (repeat (first | exact In.z | apply In.s))) | (refine Sub.suf ?_; (repeat (first | exact Suf.z | apply Suf.s)))))
  simp only [packV]; rw [List.take_of_length_le (by omega)] at hkk; rw [hkk]

set_option maxRecDepth 100000 in
theorem c_rSame (p q : Patch) (yp yq : Rp.Lay Patch) (hp : p.fit) (hq : q.fit) : Con Tryz.prog 15 [sv p yp, sv q yq] [] [slA yp.1.1 p.deps, slA yp.2.1 p.l, slA yq.1.1 q.deps, slA yq.2.1 q.l] Unit (fun _ => .bool (decide (p = q))) (fun _ => []) (fun _ => []) := by
 refine con Tryz.func15 rfl Tryz.ntmps15 rfl ?_
 intro M0 F0 w0
 refine cs ?_
 refine cr ?_
 refine ls (o_box rfl rfl rfl) ?_
 refine le ?_; intro b2
 refine ls (o_box rfl rfl rfl) ?_
 refine le ?_; intro b3
 refine ls (op (p_asg rfl) rfl) ?_
 refine ln ?_
 refine nthen ?_
 refine cs ?_
 refine cs ?_
 have hdl := hp.dl
 refine cr ?_
 refine ls (op (p_fa fa25_0 rfl) rfl) ?_
 refine ls (o_ld Tryz.isAgg3 rfl (by repeat (first | exact At.z | apply At.s)) (by repeat (first | exact At.z | apply At.s)) rfl) ?_
 refine ls (op (p_fa fa25_0 rfl) rfl) ?_
 refine ls (o_ld Tryz.isAgg3 rfl (by repeat (first | exact At.z | apply At.s)) (by repeat (first | exact At.z | apply At.s)) rfl) ?_
 refine ls (op (p_icmp rfl rfl rfl) rfl) ?_
 refine ls (op (p_move rfl) rfl) ?_
 refine orX 6 11 17 rfl (subσ.cons (t := 0) rfl (subσ.cons (t := 1) rfl (subσ.cons (t := 2) rfl (subσ.cons (t := 3) rfl (subσ.cons (t := 4) rfl (subσ.nil _)))))) ?_ ?_
 ·
  intro h11
  refine lskip rfl rfl rfl rfl rfl ?_
  refine lskip rfl rfl rfl rfl rfl ?_
  refine lskip rfl rfl rfl rfl rfl ?_
  refine lskip rfl rfl rfl rfl rfl ?_
  refine lskip rfl rfl rfl rfl rfl ?_
  refine ls (op (p_pickt rfl rfl) rfl) ?_
  refine ln (nmid (wk0 (by repeat (first | exact subσ.nil _ | refine subσ.cons rfl ?_)) (by repeat (first | exact Sub.d | (refine Sub.s ?_ ?_; (repeat (first | exact In.z | apply In.s))) | (refine Sub.suf ?_; (repeat (first | exact Suf.z | apply Suf.s)))))))
 apply exI
 ·
  intro h11
  refine lwant rfl rfl rfl rfl (op (p_fa fa25_1 rfl) rfl) ?_
  refine lwant rfl rfl rfl rfl (o_ld Tryz.isAgg9 rfl (by repeat (first | exact At.z | apply At.s)) (by repeat (first | exact At.z | apply At.s)) rfl) ?_
  refine lwant rfl rfl rfl rfl (op (p_fa fa25_1 rfl) rfl) ?_
  refine lwant rfl rfl rfl rfl (o_ld Tryz.isAgg9 rfl (by repeat (first | exact At.z | apply At.s)) (by repeat (first | exact At.z | apply At.s)) rfl) ?_
  refine lwant rfl rfl rfl rfl (op (p_sne rfl rfl) rfl) ?_
  refine ls (op (p_pickf rfl rfl) rfl) ?_
  refine ln (nmid (wk0 (by repeat (first | exact subσ.nil _ | refine subσ.cons rfl ?_)) (by repeat (first | exact Sub.d | (refine Sub.s ?_ ?_; (repeat (first | exact In.z | apply In.s))) | (refine Sub.suf ?_; (repeat (first | exact Suf.z | apply Suf.s)))))))
 ·
  refine ls (op (p_move rfl) rfl) ?_
  refine orX 8 18 26 rfl (subσ.cons (t := 0) rfl (subσ.cons (t := 1) rfl (subσ.cons (t := 2) rfl (subσ.cons (t := 3) rfl (subσ.cons (t := 4) rfl (subσ.nil _)))))) ?_ ?_
  ·
   intro h18
   refine lskip rfl rfl rfl rfl rfl ?_
   refine lskip rfl rfl rfl rfl rfl ?_
   refine lskip rfl rfl rfl rfl rfl ?_
   refine lskip rfl rfl rfl rfl rfl ?_
   refine lskip rfl rfl rfl rfl rfl ?_
   refine lskip rfl rfl rfl rfl rfl ?_
   refine lskip rfl rfl rfl rfl rfl ?_
   refine ls (op (p_pickt rfl rfl) rfl) ?_
   refine ln (nmid (wk0 (by repeat (first | exact subσ.nil _ | refine subσ.cons rfl ?_)) (by repeat (first | exact Sub.d | (refine Sub.s ?_ ?_; (repeat (first | exact In.z | apply In.s))) | (refine Sub.suf ?_; (repeat (first | exact Suf.z | apply Suf.s)))))))
  apply exI
  ·
   intro h18
   refine lwant rfl rfl rfl rfl (op (p_fa fa25_2 rfl) rfl) ?_
   refine lwant rfl rfl rfl rfl (o_ld Tryz.isAgg22 rfl (by repeat (first | exact At.z | apply At.s)) (by repeat (first | exact At.z | apply At.s)) rfl) ?_
   refine lwant rfl rfl rfl rfl (op (p_lenl rfl Tryz.underlying22) rfl) ?_
   refine lwant rfl rfl rfl rfl (op (p_fa fa25_2 rfl) rfl) ?_
   refine lwant rfl rfl rfl rfl (o_ld Tryz.isAgg22 rfl (by repeat (first | exact At.z | apply At.s)) (by repeat (first | exact At.z | apply At.s)) rfl) ?_
   refine lwant rfl rfl rfl rfl (op (p_lenl rfl Tryz.underlying22) rfl) ?_
   refine lwant rfl rfl rfl rfl (op (p_icmp rfl rfl rfl) rfl) ?_
   refine ls (op (p_pickf rfl rfl) rfl) ?_
   refine ln (nmid (wk0 (by repeat (first | exact subσ.nil _ | refine subσ.cons rfl ?_)) (by repeat (first | exact Sub.d | (refine Sub.s ?_ ?_; (repeat (first | exact In.z | apply In.s))) | (refine Sub.suf ?_; (repeat (first | exact Suf.z | apply Suf.s)))))))
  ·
   refine ln ?_
   refine nthen ?_
   refine cc rfl ?_ ?_
   ·
    intro h26
    try simp only [decide_eq_true_eq, decide_eq_false_iff_not, Bool.not_eq_true', Bool.not_eq_false', Int.not_lt, Int.not_le, ge_iff_le, Bool.not_true, Bool.not_false] at h26
    refine cs ?_
    refine cr ?_
    refine ls (op (p_asg rfl) rfl) ?_
    refine ln ?_
    refine nthen ?_
    refine cret ?_
    refine xret (fun _ _ h => h) ?_
    refine rret (is := []) () (Or.inl rfl) (Res.t rfl Res.d) ?_ rfl (by repeat (first | exact Sub.d | (refine Sub.s ?_ ?_; (repeat (first | exact In.z | apply In.s))) | (refine Sub.suf ?_; (repeat (first | exact Suf.z | apply Suf.s)))))
    simp only [packV]; rw [decide_eq_false (rsame_t h26)]
   ·
    intro h26
    try simp only [decide_eq_true_eq, decide_eq_false_iff_not, Bool.not_eq_true', Bool.not_eq_false', Int.not_lt, Int.not_le, ge_iff_le, Bool.not_true, Bool.not_false] at h26
    refine cskip ?_
    refine nthen ?_
    refine cs ?_
    refine cs ?_
    refine cr ?_
    refine ls (op (p_asg rfl) rfl) ?_
    refine ln ?_
    refine nthen ?_
    refine cb ?_
    refine cl (ι := {k : Nat // k ≤ p.deps.length ∧ p.deps.take k = q.deps.take k}) (fun i => St M0 F0 w0 50 [(2, .pointer (some ⟨b2, 0, none⟩)), (3, .pointer (some ⟨b3, 0, none⟩)), (5, .int .i64 (i.1 : Int))] [box b2 25 (Rp.enc p yp), box b3 25 (Rp.enc q yq)] [slA yp.1.1 p.deps, slA yp.2.1 p.l, slA yq.1.1 q.deps, slA yq.2.1 q.l]) (fun i => p.deps.length - i.1) ⟨0, by simp⟩ (wk (is := [1, 0]) (by repeat (first | exact subσ.nil _ | refine subσ.cons rfl ?_)) rfl (by repeat (first | exact Sub.d | (refine Sub.s ?_ ?_; (repeat (first | exact In.z | apply In.s))) | (refine Sub.suf ?_; (repeat (first | exact Suf.z | apply Suf.s)))))) ?_
    rintro ⟨k, hk, hkk⟩
    refine cmono (S' := St M0 F0 w0 50 [(2, .pointer (some ⟨b2, 0, none⟩)), (3, .pointer (some ⟨b3, 0, none⟩)), (5, .int .i64 (k : Int))] [box b2 25 (Rp.enc p yp), box b3 25 (Rp.enc q yq)] [slA yp.1.1 p.deps, slA yp.2.1 p.l, slA yq.1.1 q.deps, slA yq.2.1 q.l]) (fun _ _ h => h) ?_
    refine cs ?_
    refine cs ?_
    refine cr ?_
    refine ls (op (p_move rfl) rfl) ?_
    refine ls (op (p_fa fa25_2 rfl) rfl) ?_
    refine ls (o_ld Tryz.isAgg22 rfl (by repeat (first | exact At.z | apply At.s)) (by repeat (first | exact At.z | apply At.s)) rfl) ?_
    refine ls (op (p_lenl rfl Tryz.underlying22) rfl) ?_
    refine ls (op (p_icmp rfl rfl rfl) rfl) ?_
    refine ln ?_
    refine nthen ?_
    refine cc rfl ?_ ?_
    ·
     intro h31
     try simp only [decide_eq_true_eq, decide_eq_false_iff_not, Bool.not_eq_true', Bool.not_eq_false', Int.not_lt, Int.not_le, ge_iff_le, Bool.not_true, Bool.not_false] at h31
     have hsm := rsame_f h26
     have hk1 : k < p.deps.length := by omega
     have hk2 : k < q.deps.length := by omega
     refine cskip ?_
     refine nthen ?_
     refine cs ?_
     refine cb ?_
     refine cs ?_
     refine elC (by repeat (first | exact At.z | apply At.s)) k (List.getElem?_eq_getElem (l := p.deps) hk1) ?_; rintro zbp zop zyp hAp
     refine elC (by repeat (first | exact At.z | apply At.s)) k (List.getElem?_eq_getElem (l := q.deps) hk2) ?_; rintro zbq zoq zyq hAq
     refine cd [] [(1, b2, 2, _), (4, zbp, zop + k * Rp.size Int, _), (6, b3, 2, _), (9, zbq, zoq + k * Rp.size Int, _)] TryzX.mixed (TOk.t (isBoxS (by repeat (first | exact At.z | apply At.s)) (k := 1) (by repeat (first | exact Cut.d | apply Cut.t | apply Cut.s))) (TOk.t (isInS (by repeat (first | exact At.z | apply At.s)) (k := 0) rfl (z := 1) (by repeat (first | exact Cut.d | apply Cut.t | apply Cut.s))) (TOk.t (isBoxS (by repeat (first | exact At.z | apply At.s)) (k := 1) (by repeat (first | exact Cut.d | apply Cut.t | apply Cut.s))) (TOk.t (isInS (by repeat (first | exact At.z | apply At.s)) (k := 0) rfl (z := 1) (by repeat (first | exact Cut.d | apply Cut.t | apply Cut.s))) TOk.d)))) ?_
     refine tk 0 rfl (by kernel_rfl) (fun _ _ _ h => h) gnone (TTany _) (p_fa fa25_2 rfl) rfl ?_
     refine tk 1 rfl (by kernel_rfl) (fun _ _ _ h => h) gnone (TTat (List.Mem.head _)) (p_ld Tryz.isAgg22 rfl) rfl ?_
     refine tk 2 rfl (by kernel_rfl) (fun _ _ _ h => h) gnone (TTany _) (p_move rfl) rfl ?_
     refine tk 3 rfl (by kernel_rfl) (fun _ _ _ h => h) gnone (TTany _) (p_ia k hAp hk1 rfl Tryz.underlying22 Tryz.sizeOf3 rfl rfl) rfl ?_
     refine tk 4 rfl (by kernel_rfl) (fun _ _ _ h => h) gnone (TTat (List.Mem.tail _ (List.Mem.head _))) (p_ld Tryz.isAgg3 rfl) rfl ?_
     refine tk 5 rfl (by kernel_rfl) (fun _ _ _ h => h) gnone (TTany _) (p_fa fa25_2 rfl) rfl ?_
     refine tk 6 rfl (by kernel_rfl) (fun _ _ _ h => h) gnone (TTat (List.Mem.tail _ (List.Mem.tail _ (List.Mem.head _)))) (p_ld Tryz.isAgg22 rfl) rfl ?_
     refine tk 7 rfl (by kernel_rfl) (fun _ _ _ h => h) gnone (TTany _) (p_move rfl) rfl ?_
     refine tk 8 rfl (by kernel_rfl) (fun _ _ _ h => h) gnone (TTany _) (p_ia k hAq hk2 rfl Tryz.underlying22 Tryz.sizeOf3 rfl rfl) rfl ?_
     refine tk 9 rfl (by kernel_rfl) (fun _ _ _ h => h) gnone (TTat (List.Mem.tail _ (List.Mem.tail _ (List.Mem.tail _ (List.Mem.head _))))) (p_ld Tryz.isAgg3 rfl) rfl ?_
     refine tk 10 rfl (by kernel_rfl) (fun _ _ _ h => h) gnone (TTany _) (p_icmp rfl rfl rfl) rfl ?_
     refine dn (by kernel_rfl) ?_
     refine nthen ?_
     refine cc rfl ?_ ?_
     ·
      intro h44
      try simp only [decide_eq_true_eq, decide_eq_false_iff_not, Bool.not_eq_true', Bool.not_eq_false', Int.not_lt, Int.not_le, ge_iff_le, Bool.not_true, Bool.not_false] at h44
      refine cs ?_
      refine cr ?_
      refine ls (op (p_asg rfl) rfl) ?_
      refine ln ?_
      refine nthen ?_
      refine cret ?_
      refine xret (fun _ _ h => h) ?_
      refine rret (is := []) () (Or.inl rfl) (Res.t rfl Res.d) ?_ rfl (by repeat (first | exact Sub.d | (refine Sub.s ?_ ?_; (repeat (first | exact In.z | apply In.s))) | (refine Sub.suf ?_; (repeat (first | exact Suf.z | apply Suf.s)))))
      simp only [packV]; rw [decide_eq_false]; rintro rfl; exact h44 rfl
     ·
      intro h44
      try simp only [decide_eq_true_eq, decide_eq_false_iff_not, Bool.not_eq_true', Bool.not_eq_false', Int.not_lt, Int.not_le, ge_iff_le, Bool.not_true, Bool.not_false] at h44
      refine cskip ?_
      refine nblock ?_
      refine nthen ?_
      refine cr ?_
      refine ls (op (p_move rfl) rfl) ?_
      refine ls (op (p_add rfl rfl (by omega)) rfl) ?_
      refine ls (op (p_asg rfl) rfl) ?_
      refine ln ?_
      refine nnext ⟨k + 1, hk1, by rw [List.take_succ_eq_append_getElem hk1, List.take_succ_eq_append_getElem hk2, hkk, h44]⟩ (by dsimp only; omega) (wk0 (by repeat (first | exact subσ.nil _ | refine subσ.cons rfl ?_)) (by repeat (first | exact Sub.d | (refine Sub.s ?_ ?_; (repeat (first | exact In.z | apply In.s))) | (refine Sub.suf ?_; (repeat (first | exact Suf.z | apply Suf.s))))))
    ·
     intro h31
     try simp only [decide_eq_true_eq, decide_eq_false_iff_not, Bool.not_eq_true', Bool.not_eq_false', Int.not_lt, Int.not_le, ge_iff_le, Bool.not_true, Bool.not_false] at h31
     have hsm := rsame_f h26
     refine cexit ?_
     refine xthen ?_
     refine xthen ?_
     refine xblock ?_
     refine nthen ?_
     refine cs ?_
     refine cr ?_
     refine ls (op (p_fa fa25_3 rfl) rfl) ?_
     refine ls (o_ld Tryz.isAgg23 rfl (by repeat (first | exact At.z | apply At.s)) (by repeat (first | exact At.z | apply At.s)) rfl) ?_
     refine ls (op (p_fa fa25_3 rfl) rfl) ?_
     refine ls (o_ld Tryz.isAgg23 rfl (by repeat (first | exact At.z | apply At.s)) (by repeat (first | exact At.z | apply At.s)) rfl) ?_
     refine ls (o_call (is := []) Tryz.call43 (c_refAllP p.l q.l _ _ _ _ hp.ll hp.lf) rfl rfl (by repeat (first | exact Sub.d | (refine Sub.s ?_ ?_; (repeat (first | exact In.z | apply In.s))) | (refine Sub.suf ?_; (repeat (first | exact Suf.z | apply Suf.s))))) rfl) ?_
     refine le ?_; intro x49
     refine ls (op (p_asg rfl) rfl) ?_
     refine ln ?_
     refine nthen ?_
     refine cret ?_
     refine xret (fun _ _ h => h) ?_
     refine rret (is := []) () (Or.inl rfl) (Res.t rfl Res.d) ?_ rfl (by repeat (first | exact Sub.d | (refine Sub.s ?_ ?_; (repeat (first | exact In.z | apply In.s))) | (refine Sub.suf ?_; (repeat (first | exact Suf.z | apply Suf.s)))))
     simp only [packV]; rw [← dec_patch, hsm.1, hsm.2.1]; have e : p.deps = q.deps := (by have h1 := List.take_of_length_le (l := p.deps) (i := k) (by omega); have h2 := List.take_of_length_le (l := q.deps) (i := k) (by omega); rw [h1, h2] at hkk; exact hkk); simp [e]

set_option maxRecDepth 100000 in
theorem c_rAll (l m : List Patch) (A B : Option Addr) (c c' : Nat) (hl : l.length ≤ 2000000) (hf : ∀ x ∈ l, x.fit) (hm : ∀ x ∈ m, x.fit) : Con Tryz.prog 24 [.slice A l.length c, .slice B m.length c'] [] [slA A l, slA B m] Unit (fun _ => .bool (decide (l = m))) (fun _ => []) (fun _ => []) := by
 refine con Tryz.func24 rfl Tryz.ntmps24 rfl ?_
 intro M0 F0 w0
 refine cs ?_
 refine cr ?_
 refine ls (op (p_asg rfl) rfl) ?_
 refine ln ?_
 refine nthen ?_
 refine cs ?_
 refine cs ?_
 refine cr ?_
 refine ls (op (p_move rfl) rfl) ?_
 refine ls (op (p_lenl rfl Tryz.underlying42) rfl) ?_
 refine ls (op (p_move rfl) rfl) ?_
 refine ls (op (p_lenl rfl Tryz.underlying42) rfl) ?_
 refine ls (op (p_icmp rfl rfl rfl) rfl) ?_
 refine ln ?_
 refine nthen ?_
 refine cc rfl ?_ ?_
 ·
  intro h10
  try simp only [decide_eq_true_eq, decide_eq_false_iff_not, Bool.not_eq_true', Bool.not_eq_false', Int.not_lt, Int.not_le, ge_iff_le, Bool.not_true, Bool.not_false] at h10
  refine cs ?_
  refine cr ?_
  refine ls (op (p_asg rfl) rfl) ?_
  refine ln ?_
  refine nthen ?_
  refine cret ?_
  refine xret (fun _ _ h => h) ?_
  refine rret (is := []) () (Or.inl rfl) (Res.t rfl Res.d) ?_ rfl (by repeat (first | exact Sub.d | (refine Sub.s ?_ ?_; (repeat (first | exact In.z | apply In.s))) | (refine Sub.suf ?_; (repeat (first | exact Suf.z | apply Suf.s)))))
  simp [packV]; intro e; rw [e] at h10; exact h10 rfl
 ·
  intro h10
  try simp only [decide_eq_true_eq, decide_eq_false_iff_not, Bool.not_eq_true', Bool.not_eq_false', Int.not_lt, Int.not_le, ge_iff_le, Bool.not_true, Bool.not_false] at h10
  refine cskip ?_
  refine nthen ?_
  refine cs ?_
  refine cs ?_
  refine cr ?_
  refine ls (op (p_asg rfl) rfl) ?_
  refine ln ?_
  refine nthen ?_
  refine cb ?_
  refine cl (ι := {k : Nat // k ≤ l.length ∧ l.take k = m.take k}) (fun i => St M0 F0 w0 27 [(0, .slice A l.length c), (1, .slice B m.length c'), (5, .int .i64 (i.1 : Int))] [] [slA A l, slA B m]) (fun i => l.length - i.1) ⟨0, by simp⟩ (wk0 (by repeat (first | exact subσ.nil _ | refine subσ.cons rfl ?_)) (by repeat (first | exact Sub.d | (refine Sub.s ?_ ?_; (repeat (first | exact In.z | apply In.s))) | (refine Sub.suf ?_; (repeat (first | exact Suf.z | apply Suf.s)))))) ?_
  rintro ⟨k, hk, hkk⟩
  refine cmono (S' := St M0 F0 w0 27 [(0, .slice A l.length c), (1, .slice B m.length c'), (5, .int .i64 (k : Int))] [] [slA A l, slA B m]) (fun _ _ h => h) ?_
  refine cs ?_
  refine cs ?_
  refine cr ?_
  refine ls (op (p_move rfl) rfl) ?_
  refine ls (op (p_move rfl) rfl) ?_
  refine ls (op (p_lenl rfl Tryz.underlying42) rfl) ?_
  refine ls (op (p_icmp rfl rfl rfl) rfl) ?_
  refine ln ?_
  refine nthen ?_
  refine cc rfl ?_ ?_
  ·
   intro h14
   try simp only [decide_eq_true_eq, decide_eq_false_iff_not, Bool.not_eq_true', Bool.not_eq_false', Int.not_lt, Int.not_le, ge_iff_le, Bool.not_true, Bool.not_false] at h14
   have hk1 : k < l.length := by omega
   have hk2 : k < m.length := by omega
   refine cskip ?_
   refine nthen ?_
   refine cs ?_
   refine cb ?_
   refine cs ?_
   refine elC (by repeat (first | exact At.z | apply At.s)) k (List.getElem?_eq_getElem (l := l) hk1) ?_; rintro zbp zop zyp hAp
   refine elC (by repeat (first | exact At.z | apply At.s)) k (List.getElem?_eq_getElem (l := m) hk2) ?_; rintro zbq zoq zyq hAq
   refine cd [8] [(3, zbp, zop + k * Rp.size Patch, _), (7, zbq, zoq + k * Rp.size Patch, _)] TryzX.mixed (TOk.t (isInS (by repeat (first | exact At.z | apply At.s)) (k := 0) rfl (z := 4) (by repeat (first | exact Cut.d | apply Cut.t | apply Cut.s))) (TOk.t (isInS (by repeat (first | exact At.z | apply At.s)) (k := 0) rfl (z := 4) (by repeat (first | exact Cut.d | apply Cut.t | apply Cut.s))) TOk.d)) ?_
   refine tk 0 rfl (by kernel_rfl) (fun _ _ _ h => h) gnone (TTany _) (p_move rfl) rfl ?_
   refine tk 1 rfl (by kernel_rfl) (fun _ _ _ h => h) gnone (TTany _) (p_move rfl) rfl ?_
   refine tk 2 rfl (by kernel_rfl) (fun _ _ _ h => h) gnone (TTany _) (p_ia k hAp hk1 rfl Tryz.underlying42 Tryz.sizeOf25 rfl rfl) rfl ?_
   refine tk 3 rfl (by kernel_rfl) (fun _ _ _ h => h) gnone (TTat (List.Mem.head _)) (p_lda Tryz.isAgg25 Tryz.sizeOf25 rfl rfl) rfl ?_
   refine tk 4 rfl (by kernel_rfl) (fun _ _ _ h => h) gnone (TTany _) (p_move rfl) rfl ?_
   refine tk 5 rfl (by kernel_rfl) (fun _ _ _ h => h) gnone (TTany _) (p_move rfl) rfl ?_
   refine tk 6 rfl (by kernel_rfl) (fun _ _ _ h => h) gnone (TTany _) (p_ia k hAq hk2 rfl Tryz.underlying42 Tryz.sizeOf25 rfl rfl) rfl ?_
   refine tk 7 rfl (by kernel_rfl) (fun _ _ _ h => h) gnone (TTat (List.Mem.tail _ (List.Mem.head _))) (p_lda Tryz.isAgg25 Tryz.sizeOf25 rfl rfl) rfl ?_
   refine df 8 (by kernel_rfl) ?_
   refine doR rfl (o_call (is := []) Tryz.call15 (c_rSame l[k] m[k] zyp zyq (hf _ (List.getElem_mem hk1)) (hm _ (List.getElem_mem hk2))) rfl rfl (by repeat (first | exact Sub.d | (refine Sub.s ?_ ?_; (repeat (first | exact In.z | apply In.s))) | (refine Sub.suf ?_; (repeat (first | exact Suf.z | apply Suf.s))))) rfl) (TOk.x (by kernel_rfl) (TOk.x (by kernel_rfl) TOk.d)) ?_
   refine ea ?_; intro x25
   refine tk 9 rfl (by kernel_rfl) (fun _ _ _ h => h) gnone (TTany _) (p_not rfl) rfl ?_
   refine dn (by kernel_rfl) ?_
   refine nthen ?_
   refine cc rfl ?_ ?_
   ·
    intro h26
    try simp only [decide_eq_true_eq, decide_eq_false_iff_not, Bool.not_eq_true', Bool.not_eq_false', Int.not_lt, Int.not_le, ge_iff_le, Bool.not_true, Bool.not_false] at h26
    refine cs ?_
    refine cr ?_
    refine ls (op (p_asg rfl) rfl) ?_
    refine ln ?_
    refine nthen ?_
    refine cret ?_
    refine xret (fun _ _ h => h) ?_
    refine rret (is := []) () (Or.inl rfl) (Res.t rfl Res.d) ?_ rfl (by repeat (first | exact Sub.d | (refine Sub.s ?_ ?_; (repeat (first | exact In.z | apply In.s))) | (refine Sub.suf ?_; (repeat (first | exact Suf.z | apply Suf.s)))))
    simp [packV]; rintro rfl; exact h26 rfl
   ·
    intro h26
    try simp only [decide_eq_true_eq, decide_eq_false_iff_not, Bool.not_eq_true', Bool.not_eq_false', Int.not_lt, Int.not_le, ge_iff_le, Bool.not_true, Bool.not_false] at h26
    refine cskip ?_
    refine nblock ?_
    refine nthen ?_
    refine cr ?_
    refine ls (op (p_move rfl) rfl) ?_
    refine ls (op (p_add rfl rfl (by omega)) rfl) ?_
    refine ls (op (p_asg rfl) rfl) ?_
    refine ln ?_
    refine nnext ⟨k + 1, hk1, by rw [List.take_succ_eq_append_getElem hk1, List.take_succ_eq_append_getElem hk2, hkk, h26]⟩ (by dsimp only; omega) (wk (is := []) (by repeat (first | exact subσ.nil _ | refine subσ.cons rfl ?_)) rfl (by repeat (first | exact Sub.d | (refine Sub.s ?_ ?_; (repeat (first | exact In.z | apply In.s))) | (refine Sub.suf ?_; (repeat (first | exact Suf.z | apply Suf.s))))))
  ·
   intro h14
   try simp only [decide_eq_true_eq, decide_eq_false_iff_not, Bool.not_eq_true', Bool.not_eq_false', Int.not_lt, Int.not_le, ge_iff_le, Bool.not_true, Bool.not_false] at h14
   refine cexit ?_
   refine xthen ?_
   refine xthen ?_
   refine xblock ?_
   refine nthen ?_
   refine cs ?_
   refine cr ?_
   refine ls (op (p_asg rfl) rfl) ?_
   refine ln ?_
   refine nthen ?_
   refine cret ?_
   refine xret (fun _ _ h => h) ?_
   refine rret (is := []) () (Or.inl rfl) (Res.t rfl Res.d) ?_ rfl (by repeat (first | exact Sub.d | (refine Sub.s ?_ ?_; (repeat (first | exact In.z | apply In.s))) | (refine Sub.suf ?_; (repeat (first | exact Suf.z | apply Suf.s)))))
   simp [packV]; have := List.take_of_length_le (l := l) (i := k) (by omega); have := List.take_of_length_le (l := m) (i := k) (by omega); simp_all

end Go.Proofs.YtogcgfdfabnjhaaGreatDoor.X

end
section
set_option linter.unusedVariables false
set_option linter.unusedSimpArgs false
namespace Go.Proofs.YtogcgfdfabnjhaaGreatDoor.X
open Go Go.RowKit Go.Proofs Go.Sx
attribute [local irreducible] slA isA box row

abbrev PTwo (f : Patch × Patch × Bool) := { x : (Patch × Patch × Bool) × (Rp.Lay Patch × Rp.Lay Patch) // x.1 = f }
def PTwo.v {f} (x : PTwo f) : Value := .tuple #[sv x.1.1.1 x.1.2.1, sv x.1.1.2.1 x.1.2.2, .bool x.1.1.2.2]
def PTwo.g {f} (x : PTwo f) : List Asn := [slA x.1.2.1.1.1 x.1.1.1.deps, slA x.1.2.1.2.1 x.1.1.1.l, slA x.1.2.2.1.1 x.1.1.2.1.deps, slA x.1.2.2.2.1 x.1.1.2.1.l]
theorem may_t {p q : Patch} (h : (!p.right || !q.right || decide (p.id = q.id) || (q.deps.any fun s => decide (s = p.id)) || (p.deps.any fun s => decide (s = q.id))) = true) : pswap p q = (Patch.zero, Patch.zero, false) := by
 have : pmay p q = false := by
  unfold pmay
  rw [Bool.eq_false_iff]; intro e
  simp only [Bool.and_eq_true, Bool.not_eq_true'] at e
  obtain ⟨⟨⟨⟨e1, e2⟩, e3⟩, e4⟩, e5⟩ := e
  rw [e1, e2, e3, e4, e5] at h
  simp at h
 unfold pswap
 rw [this]; simp
theorem may_f {p q : Patch} (h : (!p.right || !q.right || decide (p.id = q.id) || (q.deps.any fun s => decide (s = p.id)) || (p.deps.any fun s => decide (s = q.id))) = false) : pmay p q = true := by
 unfold pmay
 simp only [Bool.or_eq_false_iff, Bool.not_eq_false'] at h
 obtain ⟨⟨⟨⟨e1, e2⟩, e3⟩, e4⟩, e5⟩ := h
 rw [e1, e2, e3, e4, e5]; rfl
theorem may_t' {p q : Patch} (h : (!p.right || !q.right || decide (p.id = q.id) || (p.deps.any fun s => decide (s = q.id)) || (q.deps.any fun s => decide (s = p.id))) = true) : pswap p q = (Patch.zero, Patch.zero, false) := may_t (by
 rw [← h]; cases p.right <;> cases q.right <;> cases decide (p.id = q.id) <;> cases (p.deps.any fun s => decide (s = q.id)) <;> cases (q.deps.any fun s => decide (s = p.id)) <;> rfl)
theorem may_f' {p q : Patch} (h : (!p.right || !q.right || decide (p.id = q.id) || (p.deps.any fun s => decide (s = q.id)) || (q.deps.any fun s => decide (s = p.id))) = false) : pmay p q = true := may_f (by
 rw [← h]; cases p.right <;> cases q.right <;> cases decide (p.id = q.id) <;> cases (p.deps.any fun s => decide (s = q.id)) <;> cases (q.deps.any fun s => decide (s = p.id)) <;> rfl)
theorem pswap_f {p q : Patch} {f s : List Prim} (h : (f, s, false) = swT p.l q.l) : pswap p q = (Patch.zero, Patch.zero, false) := by
 unfold pswap; rw [← h]; simp
theorem pswap_t {p q : Patch} {f s : List Prim} (hm : pmay p q = true) (h : (f, s, true) = swT p.l q.l) : pswap p q = ({ q with l := f }, { p with l := s }, true) := by
 unfold pswap; rw [← h, hm]; simp
theorem may_ne {p q : Patch} (h : pmay p q = true) : p.l ≠ [] ∧ q.l ≠ [] := by
 unfold pmay at h
 simp only [Bool.and_eq_true] at h
 obtain ⟨⟨⟨⟨e1, e2⟩, _⟩, _⟩, _⟩ := h
 unfold Patch.right at e1 e2
 simp only [Bool.and_eq_true, decide_eq_true_eq] at e1 e2
 constructor
 ·
  intro e; rw [e] at e1; simp at e1
 ·
  intro e; rw [e] at e2; simp at e2
theorem pswap_fit2 {p q a b : Patch} {c : Bool} (h : (a, b, c) = pswap p q) (hp : p.fit) (hq : q.fit) : a.fit ∧ b.fit := by
 have e := pswap_fit hp hq
 rw [← h] at e
 exact e
theorem rep_set {k j : Nat} {rest : List Patch} {b : Patch} {n : Nat} (hk : k + j + 1 = n) : (List.replicate (n - j) Patch.zero ++ rest).set k b = List.replicate (n - (j + 1)) Patch.zero ++ (b :: rest) := by
 rw [show n - j = k + 1 by omega, show n - (j + 1) = k by omega, List.replicate_succ', List.append_assoc, List.singleton_append]
 rw [List.set_append_right _ _ (by simp)]
 simp


set_option maxRecDepth 100000 in
theorem c_nSwap (p q : Patch) (yp yq : Rp.Lay Patch) (hp : p.fit) (hq : q.fit) : Con Tryz.prog 17 [sv p yp, sv q yq] [] [slA yp.1.1 p.deps, slA yp.2.1 p.l, slA yq.1.1 q.deps, slA yq.2.1 q.l] (PTwo (pswap p q)) (fun x => x.v) (fun _ => []) (fun x => x.g) := by
 refine con Tryz.func17 rfl Tryz.ntmps17 rfl ?_
 intro M0 F0 w0
 refine cs ?_
 refine cr ?_
 refine ls (o_box rfl rfl rfl) ?_
 refine le ?_; intro b2
 refine ls (o_box rfl rfl rfl) ?_
 refine le ?_; intro b3
 refine ls (o_alloc Tryz.zeroValue31 rfl rfl) ?_
 refine le ?_; intro b4
 refine ls (o_alloc Tryz.zeroValue31 rfl rfl) ?_
 refine le ?_; intro b5
 refine ls (op (p_asg rfl) rfl) ?_
 refine ln ?_
 refine nthen ?_
 refine cs ?_
 refine cs ?_
 refine cr ?_
 refine ls (o_ldw Tryz.isAgg31 Tryz.sizeOf31 rfl (by repeat (first | exact At.z | apply At.s)) (by rfl) rfl) ?_
 refine ls (o_call (is := []) Tryz.call11 (c_nRight p yp hp) rfl rfl (by repeat (first | exact Sub.d | (refine Sub.s ?_ ?_; (repeat (first | exact In.z | apply In.s))) | (refine Sub.suf ?_; (repeat (first | exact Suf.z | apply Suf.s))))) rfl) ?_
 refine le ?_; intro x10
 refine ls (op (p_not rfl) rfl) ?_
 refine ls (op (p_move rfl) rfl) ?_
 refine orX 4 12 16 rfl (subσ.cons (t := 0) rfl (subσ.cons (t := 1) rfl (subσ.cons (t := 2) rfl (subσ.cons (t := 3) rfl (subσ.cons (t := 4) rfl (subσ.cons (t := 5) rfl (subσ.cons (t := 6) rfl (subσ.nil _)))))))) ?_ ?_
 ·
  intro h12
  refine lskip rfl rfl rfl rfl rfl ?_
  refine lskip rfl rfl rfl rfl rfl ?_
  refine lskip rfl rfl rfl rfl rfl ?_
  refine ls (op (p_pickt rfl rfl) rfl) ?_
  refine ln (nmid (wk0 (by repeat (first | exact subσ.nil _ | refine subσ.cons rfl ?_)) (by repeat (first | exact Sub.d | (refine Sub.s ?_ ?_; (repeat (first | exact In.z | apply In.s))) | (refine Sub.suf ?_; (repeat (first | exact Suf.z | apply Suf.s)))))))
 apply exI
 ·
  intro h12
  refine lwant rfl rfl rfl rfl (o_ldw Tryz.isAgg31 Tryz.sizeOf31 rfl (by repeat (first | exact At.z | apply At.s)) (by rfl) rfl) ?_
  refine lwant rfl rfl rfl rfl (o_call (is := []) Tryz.call11 (c_nRight q yq hq) rfl rfl (by repeat (first | exact Sub.d | (refine Sub.s ?_ ?_; (repeat (first | exact In.z | apply In.s))) | (refine Sub.suf ?_; (repeat (first | exact Suf.z | apply Suf.s))))) rfl) ?_
  refine le ?_; intro x14
  refine lwant rfl rfl rfl rfl (op (p_not rfl) rfl) ?_
  refine ls (op (p_pickf rfl rfl) rfl) ?_
  refine ln (nmid (wk0 (by repeat (first | exact subσ.nil _ | refine subσ.cons rfl ?_)) (by repeat (first | exact Sub.d | (refine Sub.s ?_ ?_; (repeat (first | exact In.z | apply In.s))) | (refine Sub.suf ?_; (repeat (first | exact Suf.z | apply Suf.s)))))))
 ·
  refine ls (op (p_move rfl) rfl) ?_
  refine orX 6 17 23 rfl (subσ.cons (t := 0) rfl (subσ.cons (t := 1) rfl (subσ.cons (t := 2) rfl (subσ.cons (t := 3) rfl (subσ.cons (t := 4) rfl (subσ.cons (t := 5) rfl (subσ.cons (t := 6) rfl (subσ.nil _)))))))) ?_ ?_
  ·
   intro h17
   refine lskip rfl rfl rfl rfl rfl ?_
   refine lskip rfl rfl rfl rfl rfl ?_
   refine lskip rfl rfl rfl rfl rfl ?_
   refine lskip rfl rfl rfl rfl rfl ?_
   refine lskip rfl rfl rfl rfl rfl ?_
   refine ls (op (p_pickt rfl rfl) rfl) ?_
   refine ln (nmid (wk0 (by repeat (first | exact subσ.nil _ | refine subσ.cons rfl ?_)) (by repeat (first | exact Sub.d | (refine Sub.s ?_ ?_; (repeat (first | exact In.z | apply In.s))) | (refine Sub.suf ?_; (repeat (first | exact Suf.z | apply Suf.s)))))))
  apply exI
  ·
   intro h17
   refine lwant rfl rfl rfl rfl (op (p_fa fa31_0 rfl) rfl) ?_
   refine lwant rfl rfl rfl rfl (o_ld Tryz.isAgg3 rfl (by repeat (first | exact At.z | apply At.s)) (by repeat (first | exact At.z | apply At.s)) rfl) ?_
   refine lwant rfl rfl rfl rfl (op (p_fa fa31_0 rfl) rfl) ?_
   refine lwant rfl rfl rfl rfl (o_ld Tryz.isAgg3 rfl (by repeat (first | exact At.z | apply At.s)) (by repeat (first | exact At.z | apply At.s)) rfl) ?_
   refine lwant rfl rfl rfl rfl (op (p_icmp rfl rfl rfl) rfl) ?_
   refine ls (op (p_pickf rfl rfl) rfl) ?_
   refine ln (nmid (wk0 (by repeat (first | exact subσ.nil _ | refine subσ.cons rfl ?_)) (by repeat (first | exact Sub.d | (refine Sub.s ?_ ?_; (repeat (first | exact In.z | apply In.s))) | (refine Sub.suf ?_; (repeat (first | exact Suf.z | apply Suf.s)))))))
  ·
   refine ls (op (p_move rfl) rfl) ?_
   refine orX 6 24 30 rfl (subσ.cons (t := 0) rfl (subσ.cons (t := 1) rfl (subσ.cons (t := 2) rfl (subσ.cons (t := 3) rfl (subσ.cons (t := 4) rfl (subσ.cons (t := 5) rfl (subσ.cons (t := 6) rfl (subσ.nil _)))))))) ?_ ?_
   ·
    intro h24
    refine lskip rfl rfl rfl rfl rfl ?_
    refine lskip rfl rfl rfl rfl rfl ?_
    refine lskip rfl rfl rfl rfl rfl ?_
    refine lskip rfl rfl rfl rfl rfl ?_
    refine lskip rfl rfl rfl rfl rfl ?_
    refine ls (op (p_pickt rfl rfl) rfl) ?_
    refine ln (nmid (wk0 (by repeat (first | exact subσ.nil _ | refine subσ.cons rfl ?_)) (by repeat (first | exact Sub.d | (refine Sub.s ?_ ?_; (repeat (first | exact In.z | apply In.s))) | (refine Sub.suf ?_; (repeat (first | exact Suf.z | apply Suf.s)))))))
   apply exI
   ·
    intro h24
    refine lwant rfl rfl rfl rfl (op (p_fa fa31_2 rfl) rfl) ?_
    refine lwant rfl rfl rfl rfl (o_ld Tryz.isAgg22 rfl (by repeat (first | exact At.z | apply At.s)) (by repeat (first | exact At.z | apply At.s)) rfl) ?_
    refine lwant rfl rfl rfl rfl (op (p_fa fa31_0 rfl) rfl) ?_
    refine lwant rfl rfl rfl rfl (o_ld Tryz.isAgg3 rfl (by repeat (first | exact At.z | apply At.s)) (by repeat (first | exact At.z | apply At.s)) rfl) ?_
    refine lwant rfl rfl rfl rfl (o_call (is := []) Tryz.call45 (c_ContainsI q.deps _ _ hq.dl p.id) rfl rfl (by repeat (first | exact Sub.d | (refine Sub.s ?_ ?_; (repeat (first | exact In.z | apply In.s))) | (refine Sub.suf ?_; (repeat (first | exact Suf.z | apply Suf.s))))) rfl) ?_
    refine le ?_; intro x29
    refine ls (op (p_pickf rfl rfl) rfl) ?_
    refine ln (nmid (wk0 (by repeat (first | exact subσ.nil _ | refine subσ.cons rfl ?_)) (by repeat (first | exact Sub.d | (refine Sub.s ?_ ?_; (repeat (first | exact In.z | apply In.s))) | (refine Sub.suf ?_; (repeat (first | exact Suf.z | apply Suf.s)))))))
   ·
    refine ls (op (p_move rfl) rfl) ?_
    refine orX 6 31 37 rfl (subσ.cons (t := 0) rfl (subσ.cons (t := 1) rfl (subσ.cons (t := 2) rfl (subσ.cons (t := 3) rfl (subσ.cons (t := 4) rfl (subσ.cons (t := 5) rfl (subσ.cons (t := 6) rfl (subσ.nil _)))))))) ?_ ?_
    ·
     intro h31
     refine lskip rfl rfl rfl rfl rfl ?_
     refine lskip rfl rfl rfl rfl rfl ?_
     refine lskip rfl rfl rfl rfl rfl ?_
     refine lskip rfl rfl rfl rfl rfl ?_
     refine lskip rfl rfl rfl rfl rfl ?_
     refine ls (op (p_pickt rfl rfl) rfl) ?_
     refine ln (nmid (wk0 (by repeat (first | exact subσ.nil _ | refine subσ.cons rfl ?_)) (by repeat (first | exact Sub.d | (refine Sub.s ?_ ?_; (repeat (first | exact In.z | apply In.s))) | (refine Sub.suf ?_; (repeat (first | exact Suf.z | apply Suf.s)))))))
    apply exI
    ·
     intro h31
     refine lwant rfl rfl rfl rfl (op (p_fa fa31_2 rfl) rfl) ?_
     refine lwant rfl rfl rfl rfl (o_ld Tryz.isAgg22 rfl (by repeat (first | exact At.z | apply At.s)) (by repeat (first | exact At.z | apply At.s)) rfl) ?_
     refine lwant rfl rfl rfl rfl (op (p_fa fa31_0 rfl) rfl) ?_
     refine lwant rfl rfl rfl rfl (o_ld Tryz.isAgg3 rfl (by repeat (first | exact At.z | apply At.s)) (by repeat (first | exact At.z | apply At.s)) rfl) ?_
     refine lwant rfl rfl rfl rfl (o_call (is := []) Tryz.call45 (c_ContainsI p.deps _ _ hp.dl q.id) rfl rfl (by repeat (first | exact Sub.d | (refine Sub.s ?_ ?_; (repeat (first | exact In.z | apply In.s))) | (refine Sub.suf ?_; (repeat (first | exact Suf.z | apply Suf.s))))) rfl) ?_
     refine le ?_; intro x36
     refine ls (op (p_pickf rfl rfl) rfl) ?_
     refine ln (nmid (wk0 (by repeat (first | exact subσ.nil _ | refine subσ.cons rfl ?_)) (by repeat (first | exact Sub.d | (refine Sub.s ?_ ?_; (repeat (first | exact In.z | apply In.s))) | (refine Sub.suf ?_; (repeat (first | exact Suf.z | apply Suf.s)))))))
    ·
     refine ln ?_
     refine nthen ?_
     refine cc rfl ?_ ?_
     ·
      intro h37
      try simp only [decide_eq_true_eq, decide_eq_false_iff_not, Bool.not_eq_true', Bool.not_eq_false', Int.not_lt, Int.not_le, ge_iff_le, Bool.not_true, Bool.not_false] at h37
      refine cs ?_
      refine cmono (fun a w h => nilSl (α := Prim) h) ?_
      refine cmono (fun a w h => nilSl (α := Int) h) ?_
      refine cr ?_
      refine ls (op (p_bld sb31 rfl Fill.d) rfl) ?_
      refine ls (op (p_bld sb31 rfl Fill.d) rfl) ?_
      refine ls (o_st rfl Tryz.sizeOf31 rfl rfl rfl rfl rfl (by repeat (first | exact At.z | apply At.s)) (by repeat (first | exact Put.d | apply Put.t | apply Put.s)) (by repeat (first | exact SetAt.z | apply SetAt.s))) ?_
      refine ls (o_st rfl Tryz.sizeOf31 rfl rfl rfl rfl rfl (by repeat (first | exact At.z | apply At.s)) (by repeat (first | exact Put.d | apply Put.t | apply Put.s)) (by repeat (first | exact SetAt.z | apply SetAt.s))) ?_
      refine ls (op (p_asg rfl) rfl) ?_
      refine ln ?_
      refine nthen ?_
      refine cret ?_
      refine xret (fun _ _ h => h) ?_
      refine rret (is := []) ⟨((Patch.zero, Patch.zero, false), (((none, 0), (none, 0)), ((none, 0), (none, 0)))), by rw [may_t h37]⟩ (Or.inl rfl) (Res.c rfl Tryz.isAgg31 Tryz.sizeOf31 (by repeat (first | exact At.z | apply At.s)) (by rfl) (Res.c rfl Tryz.isAgg31 Tryz.sizeOf31 (by repeat (first | exact At.z | apply At.s)) (by rfl) (Res.t rfl Res.d))) (rfl) rfl (by repeat (first | exact Sub.d | (refine Sub.s ?_ ?_; (repeat (first | exact In.z | apply In.s))) | (refine Sub.suf ?_; (repeat (first | exact Suf.z | apply Suf.s)))))
     ·
      intro h37
      try simp only [decide_eq_true_eq, decide_eq_false_iff_not, Bool.not_eq_true', Bool.not_eq_false', Int.not_lt, Int.not_le, ge_iff_le, Bool.not_true, Bool.not_false] at h37
      refine cskip ?_
      refine nthen ?_
      refine cs ?_
      refine cr ?_
      refine ls (op (p_fa fa31_3 rfl) rfl) ?_
      refine ls (o_ld Tryz.isAgg29 rfl (by repeat (first | exact At.z | apply At.s)) (by repeat (first | exact At.z | apply At.s)) rfl) ?_
      refine ls (op (p_fa fa31_3 rfl) rfl) ?_
      refine ls (o_ld Tryz.isAgg29 rfl (by repeat (first | exact At.z | apply At.s)) (by repeat (first | exact At.z | apply At.s)) rfl) ?_
      refine ls (o_call (is := []) Tryz.call46 (c_seqSwap p.l q.l _ _ _ _ hp.ll hq.ll hp.lf hq.lf) rfl rfl (by repeat (first | exact Sub.d | (refine Sub.s ?_ ?_; (repeat (first | exact In.z | apply In.s))) | (refine Sub.suf ?_; (repeat (first | exact Suf.z | apply Suf.s))))) rfl) ?_
      refine le ?_; rintro ⟨⟨⟨f, s, b3⟩, ⟨ya, yb⟩⟩, hr⟩
      dsimp only at hr
      refine ls (op (p_move rfl) rfl) ?_
      refine ls (op (p_ext rfl (by repeat (first | exact At.z | apply At.s))) rfl) ?_
      refine ls (op (p_ext rfl (by repeat (first | exact At.z | apply At.s))) rfl) ?_
      refine ls (op (p_ext rfl (by repeat (first | exact At.z | apply At.s))) rfl) ?_
      refine ls (op (p_asg rfl) rfl) ?_
      refine ls (op (p_asg rfl) rfl) ?_
      refine ls (op (p_asg rfl) rfl) ?_
      refine ln ?_
      refine nthen ?_
      refine cs ?_
      refine cs ?_
      refine cr ?_
      refine ls (op (p_move rfl) rfl) ?_
      refine ls (op (p_not rfl) rfl) ?_
      refine ln ?_
      refine nthen ?_
      refine cc rfl ?_ ?_
      ·
       intro h50
       obtain rfl : false = b3 := by cases b3 <;> first | rfl | (simp at h50)
       refine cs ?_
       refine cmono (fun a w h => nilSl (α := Prim) h) ?_
       refine cmono (fun a w h => nilSl (α := Int) h) ?_
       refine cr ?_
       refine ls (op (p_bld sb31 rfl Fill.d) rfl) ?_
       refine ls (op (p_bld sb31 rfl Fill.d) rfl) ?_
       refine ls (o_st rfl Tryz.sizeOf31 rfl rfl rfl rfl rfl (by repeat (first | exact At.z | apply At.s)) (by repeat (first | exact Put.d | apply Put.t | apply Put.s)) (by repeat (first | exact SetAt.z | apply SetAt.s))) ?_
       refine ls (o_st rfl Tryz.sizeOf31 rfl rfl rfl rfl rfl (by repeat (first | exact At.z | apply At.s)) (by repeat (first | exact Put.d | apply Put.t | apply Put.s)) (by repeat (first | exact SetAt.z | apply SetAt.s))) ?_
       refine ls (op (p_asg rfl) rfl) ?_
       refine ln ?_
       refine nthen ?_
       refine cret ?_
       refine xret (fun _ _ h => h) ?_
       refine rret (is := []) ⟨((Patch.zero, Patch.zero, false), (((none, 0), (none, 0)), ((none, 0), (none, 0)))), by rw [pswap_f hr]⟩ (Or.inl rfl) (Res.c rfl Tryz.isAgg31 Tryz.sizeOf31 (by repeat (first | exact At.z | apply At.s)) (by rfl) (Res.c rfl Tryz.isAgg31 Tryz.sizeOf31 (by repeat (first | exact At.z | apply At.s)) (by rfl) (Res.t rfl Res.d))) (rfl) rfl (by repeat (first | exact Sub.d | (refine Sub.s ?_ ?_; (repeat (first | exact In.z | apply In.s))) | (refine Sub.suf ?_; (repeat (first | exact Suf.z | apply Suf.s)))))
      ·
       intro h50
       obtain rfl : true = b3 := by cases b3 <;> first | rfl | (simp at h50)
       have hok := swT_ok hr hp.lf hq.lf
       have hfl := hok.1; have hsl := hok.2.1; have hpl := hp.ll; have hql := hq.ll
       refine cskip ?_
       refine nthen ?_
       refine cs ?_
       refine cd [2, 5, 6, 7] [(0, b3, 0, _), (3, b2, 0, _)] TryzX.mixed (TOk.t (isBoxS (by repeat (first | exact At.z | apply At.s)) (k := 4) (by repeat (first | exact Cut.d | apply Cut.t | apply Cut.s))) (TOk.t (isBoxS (by repeat (first | exact At.z | apply At.s)) (k := 4) (by repeat (first | exact Cut.d | apply Cut.t | apply Cut.s))) TOk.d)) ?_
       refine tk 0 rfl (by kernel_rfl) (fun _ _ _ h => h) gnone (TTat (List.Mem.head _)) (p_lda Tryz.isAgg31 Tryz.sizeOf31 rfl rfl) rfl ?_
       refine tk 1 rfl (by kernel_rfl) (fun _ _ _ h => h) gnone (TTany _) (p_move rfl) rfl ?_
       refine tk 3 rfl (by kernel_rfl) (fun _ _ _ h => h) gnone (TTat (List.Mem.tail _ (List.Mem.head _))) (p_lda Tryz.isAgg31 Tryz.sizeOf31 rfl rfl) rfl ?_
       refine tk 4 rfl (by kernel_rfl) (fun _ _ _ h => h) gnone (TTany _) (p_move rfl) rfl ?_
       refine df 2 (by kernel_rfl) ?_
       refine doR rfl (o_call (is := []) Tryz.call44 (c_with q yq hq f ya.1 ya.2 (by omega) hok.2.2.1) rfl rfl (by repeat (first | exact Sub.d | (refine Sub.s ?_ ?_; (repeat (first | exact In.z | apply In.s))) | (refine Sub.suf ?_; (repeat (first | exact Suf.z | apply Suf.s))))) rfl) (TOk.x (by kernel_rfl) (TOk.t (isBoxE fun _ => isBoxS (by repeat (first | exact At.z | apply At.s)) (k := 4) (by repeat (first | exact Cut.d | apply Cut.t | apply Cut.s))) TOk.d)) ?_
       refine ea ?_; intro y55
       refine df 5 (by kernel_rfl) ?_
       refine doR rfl (o_call (is := []) Tryz.call44 (c_with p yp hp s yb.1 yb.2 (by omega) hok.2.2.2) rfl rfl (by repeat (first | exact Sub.d | (refine Sub.s ?_ ?_; (repeat (first | exact In.z | apply In.s))) | (refine Sub.suf ?_; (repeat (first | exact Suf.z | apply Suf.s))))) rfl) (TOk.x (by kernel_rfl) (TOk.x (by kernel_rfl) TOk.d)) ?_
       refine ea ?_; intro y58
       refine df 6 (by kernel_rfl) ?_
       refine doR rfl (o_st rfl Tryz.sizeOf31 rfl rfl rfl rfl rfl (by repeat (first | exact At.z | apply At.s)) (by repeat (first | exact Put.d | apply Put.t | apply Put.s)) (by repeat (first | exact SetAt.z | apply SetAt.s))) (TOk.x (by kernel_rfl) (TOk.x (by kernel_rfl) TOk.d)) ?_
       refine df 7 (by kernel_rfl) ?_
       refine doR rfl (o_st rfl Tryz.sizeOf31 rfl rfl rfl rfl rfl (by repeat (first | exact At.z | apply At.s)) (by repeat (first | exact Put.d | apply Put.t | apply Put.s)) (by repeat (first | exact SetAt.z | apply SetAt.s))) (TOk.x (by kernel_rfl) (TOk.x (by kernel_rfl) TOk.d)) ?_
       refine tk 8 rfl (by kernel_rfl) (fun _ _ _ h => h) gnone (TTany _) (p_asg rfl) rfl ?_
       refine dn (by kernel_rfl) ?_
       refine nthen ?_
       refine cret ?_
       refine xret (fun _ _ h => h) ?_
       refine rret (is := []) ⟨(({ q with l := f }, { p with l := s }, true), (y55, y58)), by rw [pswap_t (may_f h37) hr]⟩ (Or.inl rfl) (Res.c rfl Tryz.isAgg31 Tryz.sizeOf31 (by repeat (first | exact At.z | apply At.s)) (by rfl) (Res.c rfl Tryz.isAgg31 Tryz.sizeOf31 (by repeat (first | exact At.z | apply At.s)) (by rfl) (Res.t rfl Res.d))) (rfl) rfl (by repeat (first | exact Sub.d | (refine Sub.s ?_ ?_; (repeat (first | exact In.z | apply In.s))) | (refine Sub.suf ?_; (repeat (first | exact Suf.z | apply Suf.s)))))

set_option maxRecDepth 100000 in
theorem c_nNeeds (p q : Patch) (yp yq : Rp.Lay Patch) (hp : p.fit) (hq : q.fit) : Con Tryz.prog 20 [sv p yp, sv q yq] [] [slA yp.1.1 p.deps, slA yp.2.1 p.l, slA yq.1.1 q.deps, slA yq.2.1 q.l] Unit (fun _ => .bool (!(pswap p q).2.2)) (fun _ => []) (fun _ => []) := by
 refine con Tryz.func20 rfl Tryz.ntmps20 rfl ?_
 intro M0 F0 w0
 refine cs ?_
 refine cr ?_
 refine ls (o_box rfl rfl rfl) ?_
 refine le ?_; intro b2
 refine ls (o_box rfl rfl rfl) ?_
 refine le ?_; intro b3
 refine ls (op (p_asg rfl) rfl) ?_
 refine ln ?_
 refine nthen ?_
 refine cs ?_
 refine cr ?_
 refine ls (o_ldw Tryz.isAgg31 Tryz.sizeOf31 rfl (by repeat (first | exact At.z | apply At.s)) (by rfl) rfl) ?_
 refine ls (o_ldw Tryz.isAgg31 Tryz.sizeOf31 rfl (by repeat (first | exact At.z | apply At.s)) (by rfl) rfl) ?_
 refine ls (o_call (is := []) Tryz.call17 (c_nSwap p q yp yq hp hq) rfl rfl (by repeat (first | exact Sub.d | (refine Sub.s ?_ ?_; (repeat (first | exact In.z | apply In.s))) | (refine Sub.suf ?_; (repeat (first | exact Suf.z | apply Suf.s))))) rfl) ?_
 refine le ?_; rintro ⟨⟨⟨r1, r2, r3⟩, z1, z2⟩, hr⟩
 obtain ⟨e1, e2⟩ := pswap_fit2 hr hp hq; dsimp only at hr e1 e2
 refine ls (op (p_move rfl) rfl) ?_
 refine ls (op (p_ext rfl (by repeat (first | exact At.z | apply At.s))) rfl) ?_
 refine ls (op (p_ext rfl (by repeat (first | exact At.z | apply At.s))) rfl) ?_
 refine ls (op (p_ext rfl (by repeat (first | exact At.z | apply At.s))) rfl) ?_
 refine ls (o_alloc Tryz.zeroValue31 rfl rfl) ?_
 refine le ?_; intro b5
 refine ls (o_alloc Tryz.zeroValue31 rfl rfl) ?_
 refine le ?_; intro b6
 refine ls (o_st rfl Tryz.sizeOf31 rfl rfl rfl rfl rfl (by repeat (first | exact At.z | apply At.s)) (by repeat (first | exact Put.d | apply Put.t | apply Put.s)) (by repeat (first | exact SetAt.z | apply SetAt.s))) ?_
 refine ls (o_st rfl Tryz.sizeOf31 rfl rfl rfl rfl rfl (by repeat (first | exact At.z | apply At.s)) (by repeat (first | exact Put.d | apply Put.t | apply Put.s)) (by repeat (first | exact SetAt.z | apply SetAt.s))) ?_
 refine ls (op (p_asg rfl) rfl) ?_
 refine ln ?_
 refine nthen ?_
 refine cs ?_
 refine cr ?_
 refine ls (op (p_move rfl) rfl) ?_
 refine ls (op (p_not rfl) rfl) ?_
 refine ls (op (p_asg rfl) rfl) ?_
 refine ln ?_
 refine nthen ?_
 refine cret ?_
 refine xret (fun _ _ h => h) ?_
 refine rret (is := []) () (Or.inl rfl) (Res.t rfl Res.d) ?_ rfl (by repeat (first | exact Sub.d | (refine Sub.s ?_ ?_; (repeat (first | exact In.z | apply In.s))) | (refine Sub.suf ?_; (repeat (first | exact Suf.z | apply Suf.s)))))
 dsimp only [packV]; rw [← hr]

set_option maxRecDepth 100000 in
theorem c_rSwap (p q : Patch) (yp yq : Rp.Lay Patch) (hp : p.fit) (hq : q.fit) : Con Tryz.prog 18 [sv p yp, sv q yq] [] [slA yp.1.1 p.deps, slA yp.2.1 p.l, slA yq.1.1 q.deps, slA yq.2.1 q.l] (PTwo (pswap p q)) (fun x => x.v) (fun _ => []) (fun x => x.g) := by
 refine con Tryz.func18 rfl Tryz.ntmps18 rfl ?_
 intro M0 F0 w0
 refine cs ?_
 refine cr ?_
 refine ls (o_box rfl rfl rfl) ?_
 refine le ?_; intro b2
 refine ls (o_box rfl rfl rfl) ?_
 refine le ?_; intro b3
 refine ls (o_alloc Tryz.zeroValue25 rfl rfl) ?_
 refine le ?_; intro b4
 refine ls (o_alloc Tryz.zeroValue25 rfl rfl) ?_
 refine le ?_; intro b5
 refine ls (op (p_asg rfl) rfl) ?_
 refine ln ?_
 refine nthen ?_
 refine cs ?_
 refine cs ?_
 refine cr ?_
 refine ls (o_ldw Tryz.isAgg25 Tryz.sizeOf25 rfl (by repeat (first | exact At.z | apply At.s)) (by rfl) rfl) ?_
 refine ls (o_call (is := []) Tryz.call13 (c_rRight p yp hp) rfl rfl (by repeat (first | exact Sub.d | (refine Sub.s ?_ ?_; (repeat (first | exact In.z | apply In.s))) | (refine Sub.suf ?_; (repeat (first | exact Suf.z | apply Suf.s))))) rfl) ?_
 refine le ?_; intro x11
 refine ls (op (p_not rfl) rfl) ?_
 refine ls (op (p_move rfl) rfl) ?_
 refine orX 4 13 17 rfl (subσ.cons (t := 0) rfl (subσ.cons (t := 1) rfl (subσ.cons (t := 2) rfl (subσ.cons (t := 3) rfl (subσ.cons (t := 4) rfl (subσ.cons (t := 5) rfl (subσ.cons (t := 6) rfl (subσ.nil _)))))))) ?_ ?_
 ·
  intro h13
  refine lskip rfl rfl rfl rfl rfl ?_
  refine lskip rfl rfl rfl rfl rfl ?_
  refine lskip rfl rfl rfl rfl rfl ?_
  refine ls (op (p_pickt rfl rfl) rfl) ?_
  refine ln (nmid (wk0 (by repeat (first | exact subσ.nil _ | refine subσ.cons rfl ?_)) (by repeat (first | exact Sub.d | (refine Sub.s ?_ ?_; (repeat (first | exact In.z | apply In.s))) | (refine Sub.suf ?_; (repeat (first | exact Suf.z | apply Suf.s)))))))
 apply exI
 ·
  intro h13
  refine lwant rfl rfl rfl rfl (o_ldw Tryz.isAgg25 Tryz.sizeOf25 rfl (by repeat (first | exact At.z | apply At.s)) (by rfl) rfl) ?_
  refine lwant rfl rfl rfl rfl (o_call (is := []) Tryz.call13 (c_rRight q yq hq) rfl rfl (by repeat (first | exact Sub.d | (refine Sub.s ?_ ?_; (repeat (first | exact In.z | apply In.s))) | (refine Sub.suf ?_; (repeat (first | exact Suf.z | apply Suf.s))))) rfl) ?_
  refine le ?_; intro x15
  refine lwant rfl rfl rfl rfl (op (p_not rfl) rfl) ?_
  refine ls (op (p_pickf rfl rfl) rfl) ?_
  refine ln (nmid (wk0 (by repeat (first | exact subσ.nil _ | refine subσ.cons rfl ?_)) (by repeat (first | exact Sub.d | (refine Sub.s ?_ ?_; (repeat (first | exact In.z | apply In.s))) | (refine Sub.suf ?_; (repeat (first | exact Suf.z | apply Suf.s)))))))
 ·
  refine ls (op (p_move rfl) rfl) ?_
  refine orX 6 18 24 rfl (subσ.cons (t := 0) rfl (subσ.cons (t := 1) rfl (subσ.cons (t := 2) rfl (subσ.cons (t := 3) rfl (subσ.cons (t := 4) rfl (subσ.cons (t := 5) rfl (subσ.cons (t := 6) rfl (subσ.nil _)))))))) ?_ ?_
  ·
   intro h18
   refine lskip rfl rfl rfl rfl rfl ?_
   refine lskip rfl rfl rfl rfl rfl ?_
   refine lskip rfl rfl rfl rfl rfl ?_
   refine lskip rfl rfl rfl rfl rfl ?_
   refine lskip rfl rfl rfl rfl rfl ?_
   refine ls (op (p_pickt rfl rfl) rfl) ?_
   refine ln (nmid (wk0 (by repeat (first | exact subσ.nil _ | refine subσ.cons rfl ?_)) (by repeat (first | exact Sub.d | (refine Sub.s ?_ ?_; (repeat (first | exact In.z | apply In.s))) | (refine Sub.suf ?_; (repeat (first | exact Suf.z | apply Suf.s)))))))
  apply exI
  ·
   intro h18
   refine lwant rfl rfl rfl rfl (op (p_fa fa25_0 rfl) rfl) ?_
   refine lwant rfl rfl rfl rfl (o_ld Tryz.isAgg3 rfl (by repeat (first | exact At.z | apply At.s)) (by repeat (first | exact At.z | apply At.s)) rfl) ?_
   refine lwant rfl rfl rfl rfl (op (p_fa fa25_0 rfl) rfl) ?_
   refine lwant rfl rfl rfl rfl (o_ld Tryz.isAgg3 rfl (by repeat (first | exact At.z | apply At.s)) (by repeat (first | exact At.z | apply At.s)) rfl) ?_
   refine lwant rfl rfl rfl rfl (op (p_icmp rfl rfl rfl) rfl) ?_
   refine ls (op (p_pickf rfl rfl) rfl) ?_
   refine ln (nmid (wk0 (by repeat (first | exact subσ.nil _ | refine subσ.cons rfl ?_)) (by repeat (first | exact Sub.d | (refine Sub.s ?_ ?_; (repeat (first | exact In.z | apply In.s))) | (refine Sub.suf ?_; (repeat (first | exact Suf.z | apply Suf.s)))))))
  ·
   refine ls (op (p_move rfl) rfl) ?_
   refine orX 5 25 30 rfl (subσ.cons (t := 0) rfl (subσ.cons (t := 1) rfl (subσ.cons (t := 2) rfl (subσ.cons (t := 3) rfl (subσ.cons (t := 4) rfl (subσ.cons (t := 5) rfl (subσ.cons (t := 6) rfl (subσ.nil _)))))))) ?_ ?_
   ·
    intro h25
    refine lskip rfl rfl rfl rfl rfl ?_
    refine lskip rfl rfl rfl rfl rfl ?_
    refine lskip rfl rfl rfl rfl rfl ?_
    refine lskip rfl rfl rfl rfl rfl ?_
    refine ls (op (p_pickt rfl rfl) rfl) ?_
    refine ln (nmid (wk0 (by repeat (first | exact subσ.nil _ | refine subσ.cons rfl ?_)) (by repeat (first | exact Sub.d | (refine Sub.s ?_ ?_; (repeat (first | exact In.z | apply In.s))) | (refine Sub.suf ?_; (repeat (first | exact Suf.z | apply Suf.s)))))))
   apply exI
   ·
    intro h25
    refine lwant rfl rfl rfl rfl (o_ldw Tryz.isAgg25 Tryz.sizeOf25 rfl (by repeat (first | exact At.z | apply At.s)) (by rfl) rfl) ?_
    refine lwant rfl rfl rfl rfl (op (p_fa fa25_0 rfl) rfl) ?_
    refine lwant rfl rfl rfl rfl (o_ld Tryz.isAgg3 rfl (by repeat (first | exact At.z | apply At.s)) (by repeat (first | exact At.z | apply At.s)) rfl) ?_
    refine lwant rfl rfl rfl rfl (o_call (is := []) Tryz.call47 (c_rOn p yp hp q.id) rfl rfl (by repeat (first | exact Sub.d | (refine Sub.s ?_ ?_; (repeat (first | exact In.z | apply In.s))) | (refine Sub.suf ?_; (repeat (first | exact Suf.z | apply Suf.s))))) rfl) ?_
    refine le ?_; intro x29
    refine ls (op (p_pickf rfl rfl) rfl) ?_
    refine ln (nmid (wk0 (by repeat (first | exact subσ.nil _ | refine subσ.cons rfl ?_)) (by repeat (first | exact Sub.d | (refine Sub.s ?_ ?_; (repeat (first | exact In.z | apply In.s))) | (refine Sub.suf ?_; (repeat (first | exact Suf.z | apply Suf.s)))))))
   ·
    refine ls (op (p_move rfl) rfl) ?_
    refine orX 5 31 36 rfl (subσ.cons (t := 0) rfl (subσ.cons (t := 1) rfl (subσ.cons (t := 2) rfl (subσ.cons (t := 3) rfl (subσ.cons (t := 4) rfl (subσ.cons (t := 5) rfl (subσ.cons (t := 6) rfl (subσ.nil _)))))))) ?_ ?_
    ·
     intro h31
     refine lskip rfl rfl rfl rfl rfl ?_
     refine lskip rfl rfl rfl rfl rfl ?_
     refine lskip rfl rfl rfl rfl rfl ?_
     refine lskip rfl rfl rfl rfl rfl ?_
     refine ls (op (p_pickt rfl rfl) rfl) ?_
     refine ln (nmid (wk0 (by repeat (first | exact subσ.nil _ | refine subσ.cons rfl ?_)) (by repeat (first | exact Sub.d | (refine Sub.s ?_ ?_; (repeat (first | exact In.z | apply In.s))) | (refine Sub.suf ?_; (repeat (first | exact Suf.z | apply Suf.s)))))))
    apply exI
    ·
     intro h31
     refine lwant rfl rfl rfl rfl (o_ldw Tryz.isAgg25 Tryz.sizeOf25 rfl (by repeat (first | exact At.z | apply At.s)) (by rfl) rfl) ?_
     refine lwant rfl rfl rfl rfl (op (p_fa fa25_0 rfl) rfl) ?_
     refine lwant rfl rfl rfl rfl (o_ld Tryz.isAgg3 rfl (by repeat (first | exact At.z | apply At.s)) (by repeat (first | exact At.z | apply At.s)) rfl) ?_
     refine lwant rfl rfl rfl rfl (o_call (is := []) Tryz.call47 (c_rOn q yq hq p.id) rfl rfl (by repeat (first | exact Sub.d | (refine Sub.s ?_ ?_; (repeat (first | exact In.z | apply In.s))) | (refine Sub.suf ?_; (repeat (first | exact Suf.z | apply Suf.s))))) rfl) ?_
     refine le ?_; intro x35
     refine ls (op (p_pickf rfl rfl) rfl) ?_
     refine ln (nmid (wk0 (by repeat (first | exact subσ.nil _ | refine subσ.cons rfl ?_)) (by repeat (first | exact Sub.d | (refine Sub.s ?_ ?_; (repeat (first | exact In.z | apply In.s))) | (refine Sub.suf ?_; (repeat (first | exact Suf.z | apply Suf.s)))))))
    ·
     refine ln ?_
     refine nthen ?_
     refine cc rfl ?_ ?_
     ·
      intro h36
      try simp only [decide_eq_true_eq, decide_eq_false_iff_not, Bool.not_eq_true', Bool.not_eq_false', Int.not_lt, Int.not_le, ge_iff_le, Bool.not_true, Bool.not_false] at h36
      refine cs ?_
      refine cmono (fun a w h => nilSl (α := Prim) h) ?_
      refine cmono (fun a w h => nilSl (α := Int) h) ?_
      refine cr ?_
      refine ls (op (p_bld sb25 rfl Fill.d) rfl) ?_
      refine ls (op (p_bld sb25 rfl Fill.d) rfl) ?_
      refine ls (o_st rfl Tryz.sizeOf25 rfl rfl rfl rfl rfl (by repeat (first | exact At.z | apply At.s)) (by repeat (first | exact Put.d | apply Put.t | apply Put.s)) (by repeat (first | exact SetAt.z | apply SetAt.s))) ?_
      refine ls (o_st rfl Tryz.sizeOf25 rfl rfl rfl rfl rfl (by repeat (first | exact At.z | apply At.s)) (by repeat (first | exact Put.d | apply Put.t | apply Put.s)) (by repeat (first | exact SetAt.z | apply SetAt.s))) ?_
      refine ls (op (p_asg rfl) rfl) ?_
      refine ln ?_
      refine nthen ?_
      refine cret ?_
      refine xret (fun _ _ h => h) ?_
      refine rret (is := []) ⟨((Patch.zero, Patch.zero, false), (((none, 0), (none, 0)), ((none, 0), (none, 0)))), by rw [may_t' h36]⟩ (Or.inl rfl) (Res.c rfl Tryz.isAgg25 Tryz.sizeOf25 (by repeat (first | exact At.z | apply At.s)) (by rfl) (Res.c rfl Tryz.isAgg25 Tryz.sizeOf25 (by repeat (first | exact At.z | apply At.s)) (by rfl) (Res.t rfl Res.d))) (rfl) rfl (by repeat (first | exact Sub.d | (refine Sub.s ?_ ?_; (repeat (first | exact In.z | apply In.s))) | (refine Sub.suf ?_; (repeat (first | exact Suf.z | apply Suf.s)))))
     ·
      intro h36
      try simp only [decide_eq_true_eq, decide_eq_false_iff_not, Bool.not_eq_true', Bool.not_eq_false', Int.not_lt, Int.not_le, ge_iff_le, Bool.not_true, Bool.not_false] at h36
      refine cskip ?_
      refine nthen ?_
      refine cs ?_
      have hne := may_ne (may_f' h36)
      refine cr ?_
      refine ls (op (p_fa fa25_3 rfl) rfl) ?_
      refine ls (o_ld Tryz.isAgg23 rfl (by repeat (first | exact At.z | apply At.s)) (by repeat (first | exact At.z | apply At.s)) rfl) ?_
      refine ls (op (p_fa fa25_3 rfl) rfl) ?_
      refine ls (o_ld Tryz.isAgg23 rfl (by repeat (first | exact At.z | apply At.s)) (by repeat (first | exact At.z | apply At.s)) rfl) ?_
      refine ls (o_call (is := []) Tryz.call48 (c_ref5Swap p.l q.l _ _ _ _ hp.ll hq.ll (fun h => absurd h hne.1) (fun h => absurd h hne.2) hp.lf hq.lf) rfl rfl (by repeat (first | exact Sub.d | (refine Sub.s ?_ ?_; (repeat (first | exact In.z | apply In.s))) | (refine Sub.suf ?_; (repeat (first | exact Suf.z | apply Suf.s))))) rfl) ?_
      refine le ?_; rintro ⟨⟨⟨f, s, b3⟩, ⟨ya, yb⟩⟩, hr⟩
      dsimp only at hr
      refine ls (op (p_move rfl) rfl) ?_
      refine ls (op (p_ext rfl (by repeat (first | exact At.z | apply At.s))) rfl) ?_
      refine ls (op (p_ext rfl (by repeat (first | exact At.z | apply At.s))) rfl) ?_
      refine ls (op (p_ext rfl (by repeat (first | exact At.z | apply At.s))) rfl) ?_
      refine ls (op (p_asg rfl) rfl) ?_
      refine ls (op (p_asg rfl) rfl) ?_
      refine ls (op (p_asg rfl) rfl) ?_
      refine ln ?_
      refine nthen ?_
      refine cs ?_
      refine cs ?_
      refine cr ?_
      refine ls (op (p_move rfl) rfl) ?_
      refine ls (op (p_not rfl) rfl) ?_
      refine ln ?_
      refine nthen ?_
      refine cc rfl ?_ ?_
      ·
       intro h49
       obtain rfl : false = b3 := by cases b3 <;> first | rfl | (simp at h49)
       refine cs ?_
       refine cmono (fun a w h => nilSl (α := Prim) h) ?_
       refine cmono (fun a w h => nilSl (α := Int) h) ?_
       refine cr ?_
       refine ls (op (p_bld sb25 rfl Fill.d) rfl) ?_
       refine ls (op (p_bld sb25 rfl Fill.d) rfl) ?_
       refine ls (o_st rfl Tryz.sizeOf25 rfl rfl rfl rfl rfl (by repeat (first | exact At.z | apply At.s)) (by repeat (first | exact Put.d | apply Put.t | apply Put.s)) (by repeat (first | exact SetAt.z | apply SetAt.s))) ?_
       refine ls (o_st rfl Tryz.sizeOf25 rfl rfl rfl rfl rfl (by repeat (first | exact At.z | apply At.s)) (by repeat (first | exact Put.d | apply Put.t | apply Put.s)) (by repeat (first | exact SetAt.z | apply SetAt.s))) ?_
       refine ls (op (p_asg rfl) rfl) ?_
       refine ln ?_
       refine nthen ?_
       refine cret ?_
       refine xret (fun _ _ h => h) ?_
       refine rret (is := []) ⟨((Patch.zero, Patch.zero, false), (((none, 0), (none, 0)), ((none, 0), (none, 0)))), by rw [pswap_f hr]⟩ (Or.inl rfl) (Res.c rfl Tryz.isAgg25 Tryz.sizeOf25 (by repeat (first | exact At.z | apply At.s)) (by rfl) (Res.c rfl Tryz.isAgg25 Tryz.sizeOf25 (by repeat (first | exact At.z | apply At.s)) (by rfl) (Res.t rfl Res.d))) (rfl) rfl (by repeat (first | exact Sub.d | (refine Sub.s ?_ ?_; (repeat (first | exact In.z | apply In.s))) | (refine Sub.suf ?_; (repeat (first | exact Suf.z | apply Suf.s)))))
      ·
       intro h49
       obtain rfl : true = b3 := by cases b3 <;> first | rfl | (simp at h49)
       refine cskip ?_
       refine nthen ?_
       refine cs ?_
       refine cd [16, 17] [(1, b3, 0, _), (3, b3, 1, _), (5, b3, 2, _), (9, b2, 0, _), (11, b2, 1, _), (13, b2, 2, _)] TryzX.mixed (TOk.t (isBoxS (by repeat (first | exact At.z | apply At.s)) (k := 1) (by repeat (first | exact Cut.d | apply Cut.t | apply Cut.s))) (TOk.t (isBoxS (by repeat (first | exact At.z | apply At.s)) (k := 1) (by repeat (first | exact Cut.d | apply Cut.t | apply Cut.s))) (TOk.t (isBoxS (by repeat (first | exact At.z | apply At.s)) (k := 1) (by repeat (first | exact Cut.d | apply Cut.t | apply Cut.s))) (TOk.t (isBoxS (by repeat (first | exact At.z | apply At.s)) (k := 1) (by repeat (first | exact Cut.d | apply Cut.t | apply Cut.s))) (TOk.t (isBoxS (by repeat (first | exact At.z | apply At.s)) (k := 1) (by repeat (first | exact Cut.d | apply Cut.t | apply Cut.s))) (TOk.t (isBoxS (by repeat (first | exact At.z | apply At.s)) (k := 1) (by repeat (first | exact Cut.d | apply Cut.t | apply Cut.s))) TOk.d)))))) ?_
       refine tk 0 rfl (by kernel_rfl) (fun _ _ _ h => h) gnone (TTany _) (p_fa fa25_0 rfl) rfl ?_
       refine tk 1 rfl (by kernel_rfl) (fun _ _ _ h => h) gnone (TTat (List.Mem.head _)) (p_ld Tryz.isAgg3 rfl) rfl ?_
       refine tk 2 rfl (by kernel_rfl) (fun _ _ _ h => h) gnone (TTany _) (p_fa fa25_1 rfl) rfl ?_
       refine tk 3 rfl (by kernel_rfl) (fun _ _ _ h => h) gnone (TTat (List.Mem.tail _ (List.Mem.head _))) (p_ld Tryz.isAgg9 rfl) rfl ?_
       refine tk 4 rfl (by kernel_rfl) (fun _ _ _ h => h) gnone (TTany _) (p_fa fa25_2 rfl) rfl ?_
       refine tk 5 rfl (by kernel_rfl) (fun _ _ _ h => h) gnone (TTat (List.Mem.tail _ (List.Mem.tail _ (List.Mem.head _)))) (p_ld Tryz.isAgg22 rfl) rfl ?_
       refine tk 6 rfl (by kernel_rfl) (fun _ _ _ h => h) gnone (TTany _) (p_move rfl) rfl ?_
       refine tk 7 rfl (by kernel_rfl) (fun _ _ _ h => h) gnone (TTany _) (p_bld sb25 rfl (Fill.t (by repeat (first | exact At.z | apply At.s)) rfl rfl (by repeat (first | exact Put.d | apply Put.t | apply Put.s)) (Fill.t (by repeat (first | exact At.z | apply At.s)) rfl rfl (by repeat (first | exact Put.d | apply Put.t | apply Put.s)) (Fill.t (by repeat (first | exact At.z | apply At.s)) rfl rfl (by repeat (first | exact Put.d | apply Put.t | apply Put.s)) (Fill.t (by repeat (first | exact At.z | apply At.s)) rfl rfl (by repeat (first | exact Put.d | apply Put.t | apply Put.s)) Fill.d))))) rfl ?_
       refine tk 8 rfl (by kernel_rfl) (fun _ _ _ h => h) gnone (TTany _) (p_fa fa25_0 rfl) rfl ?_
       refine tk 9 rfl (by kernel_rfl) (fun _ _ _ h => h) gnone (TTat (List.Mem.tail _ (List.Mem.tail _ (List.Mem.tail _ (List.Mem.head _))))) (p_ld Tryz.isAgg3 rfl) rfl ?_
       refine tk 10 rfl (by kernel_rfl) (fun _ _ _ h => h) gnone (TTany _) (p_fa fa25_1 rfl) rfl ?_
       refine tk 11 rfl (by kernel_rfl) (fun _ _ _ h => h) gnone (TTat (List.Mem.tail _ (List.Mem.tail _ (List.Mem.tail _ (List.Mem.tail _ (List.Mem.head _)))))) (p_ld Tryz.isAgg9 rfl) rfl ?_
       refine tk 12 rfl (by kernel_rfl) (fun _ _ _ h => h) gnone (TTany _) (p_fa fa25_2 rfl) rfl ?_
       refine tk 13 rfl (by kernel_rfl) (fun _ _ _ h => h) gnone (TTat (List.Mem.tail _ (List.Mem.tail _ (List.Mem.tail _ (List.Mem.tail _ (List.Mem.tail _ (List.Mem.head _))))))) (p_ld Tryz.isAgg22 rfl) rfl ?_
       refine tk 14 rfl (by kernel_rfl) (fun _ _ _ h => h) gnone (TTany _) (p_move rfl) rfl ?_
       refine tk 15 rfl (by kernel_rfl) (fun _ _ _ h => h) gnone (TTany _) (p_bld sb25 rfl (Fill.t (by repeat (first | exact At.z | apply At.s)) rfl rfl (by repeat (first | exact Put.d | apply Put.t | apply Put.s)) (Fill.t (by repeat (first | exact At.z | apply At.s)) rfl rfl (by repeat (first | exact Put.d | apply Put.t | apply Put.s)) (Fill.t (by repeat (first | exact At.z | apply At.s)) rfl rfl (by repeat (first | exact Put.d | apply Put.t | apply Put.s)) (Fill.t (by repeat (first | exact At.z | apply At.s)) rfl rfl (by repeat (first | exact Put.d | apply Put.t | apply Put.s)) Fill.d))))) rfl ?_
       refine df 16 (by kernel_rfl) ?_
       refine doR rfl (o_st rfl Tryz.sizeOf25 rfl rfl rfl rfl rfl (by repeat (first | exact At.z | apply At.s)) (by repeat (first | exact Put.d | apply Put.t | apply Put.s)) (by repeat (first | exact SetAt.z | apply SetAt.s))) (TOk.x (by kernel_rfl) (TOk.x (by kernel_rfl) (TOk.x (by kernel_rfl) (TOk.t (isBoxS (by repeat (first | exact At.z | apply At.s)) (k := 1) (by repeat (first | exact Cut.d | apply Cut.t | apply Cut.s))) (TOk.t (isBoxS (by repeat (first | exact At.z | apply At.s)) (k := 1) (by repeat (first | exact Cut.d | apply Cut.t | apply Cut.s))) (TOk.t (isBoxS (by repeat (first | exact At.z | apply At.s)) (k := 1) (by repeat (first | exact Cut.d | apply Cut.t | apply Cut.s))) TOk.d)))))) ?_
       refine df 17 (by kernel_rfl) ?_
       refine doR rfl (o_st rfl Tryz.sizeOf25 rfl rfl rfl rfl rfl (by repeat (first | exact At.z | apply At.s)) (by repeat (first | exact Put.d | apply Put.t | apply Put.s)) (by repeat (first | exact SetAt.z | apply SetAt.s))) (TOk.x (by kernel_rfl) (TOk.x (by kernel_rfl) (TOk.x (by kernel_rfl) (TOk.x (by kernel_rfl) (TOk.x (by kernel_rfl) (TOk.x (by kernel_rfl) TOk.d)))))) ?_
       refine tk 18 rfl (by kernel_rfl) (fun _ _ _ h => h) gnone (TTany _) (p_asg rfl) rfl ?_
       refine dn (by kernel_rfl) ?_
       refine nthen ?_
       refine cret ?_
       refine xret (fun _ _ h => h) ?_
       refine rret (is := []) ⟨(({ q with l := f }, { p with l := s }, true), ((yq.1, ya), (yp.1, yb))), by rw [pswap_t (may_f' h36) hr]⟩ (Or.inl rfl) (Res.c rfl Tryz.isAgg25 Tryz.sizeOf25 (by repeat (first | exact At.z | apply At.s)) (by rfl) (Res.c rfl Tryz.isAgg25 Tryz.sizeOf25 (by repeat (first | exact At.z | apply At.s)) (by rfl) (Res.t rfl Res.d))) (rfl) rfl (by repeat (first | exact Sub.d | (refine Sub.s ?_ ?_; (repeat (first | exact In.z | apply In.s))) | (refine Sub.suf ?_; (repeat (first | exact Suf.z | apply Suf.s)))))

set_option maxRecDepth 100000 in
theorem c_BackwardP (l : List Patch) (A : Option Addr) (c : Nat) : Con Tryz.prog 50 [.slice A l.length c] [] [] Nat (fun b => .func (.func 74) #[] #[.pointer (some ⟨b, 0, none⟩)]) (fun b => [box b 43 [.slice A l.length c]]) (fun _ => []) := by
 refine con Tryz.func50 rfl Tryz.ntmps50 rfl ?_
 intro M0 F0 w0
 refine cs ?_
 refine cr ?_
 refine ls (o_box rfl rfl rfl) ?_
 refine le ?_; intro b1
 refine ls (op (p_asg rfl) rfl) ?_
 refine ln ?_
 refine nthen ?_
 refine cs ?_
 refine cr ?_
 refine ls (op (p_mkf rfl) rfl) ?_
 refine ls (op (p_asg rfl) rfl) ?_
 refine ln ?_
 refine nthen ?_
 refine cret ?_
 refine xret (fun _ _ h => h) ?_
 refine rret (is := [0]) b1 (Or.inl rfl) (Res.t rfl Res.d) (rfl) rfl (by repeat (first | exact Sub.d | (refine Sub.s ?_ ?_; (repeat (first | exact In.z | apply In.s))) | (refine Sub.suf ?_; (repeat (first | exact Suf.z | apply Suf.s)))))

set_option maxRecDepth 100000 in
theorem c_BackwardP1 (l : List Patch) (A : Option Addr) (c : Nat) (hl : l.length ≤ 2000000) (B : Nat) : Iter Tryz.prog 74 [.pointer (some ⟨B, 0, none⟩)] (fun x : {x : Nat × Rp.Lay Patch // x.1 < l.length} => [.int .i64 (x.1.1 : Int), sv (l[x.1.1]'x.2) x.1.2]) (fun x => Rp.asn (l[x.1.1]'x.2) x.1.2) (fun pre x => x.1.1 + pre.length + 1 = l.length) (fun xs => xs.length = l.length) [box B 43 [.slice A l.length c]] [slA A l] := by
 intro lp J Jx hY
 refine con Tryz.func74 rfl Tryz.ntmps74 rfl ?_
 intro M0 F0 w0
 refine cs ?_
 refine cr ?_
 refine ls (o_ld Tryz.isAgg43 rfl (by repeat (first | exact At.z | apply At.s)) (by repeat (first | exact At.z | apply At.s)) rfl) ?_
 refine ls (op (p_lenl rfl Tryz.underlying43) rfl) ?_
 refine ls (op (p_sub rfl rfl (by omega)) rfl) ?_
 refine ls (op (p_asg rfl) rfl) ?_
 refine ln ?_
 refine nthen ?_
 refine cb ?_
 refine cl (ι := {q : List {x : Nat × Rp.Lay Patch // x.1 < l.length} × Int // q.1.length ≤ l.length ∧ q.2 = (l.length : Int) - 1 - (q.1.length : Int)}) (fun i => St M0 F0 w0 19 [(0, .func (.yield lp) #[] #[]), (1, .pointer (some ⟨B, 0, none⟩)), (3, .int .i64 i.1.2)] [J i.1.1, box B 43 [.slice A l.length c]] [slA A l]) (fun i => l.length - (i.1.1).length) ⟨([], (l.length : Int) - 1), Nat.zero_le _, by simp⟩ (wk0 (by repeat (first | exact subσ.nil _ | refine subσ.cons rfl ?_)) (by repeat (first | exact Sub.d | (refine Sub.s ?_ ?_; (repeat (first | exact In.z | apply In.s))) | (refine Sub.suf ?_; (repeat (first | exact Suf.z | apply Suf.s)))))) ?_
 rintro ⟨⟨pre, z⟩, hpre, hz⟩
 refine cmono (S' := St M0 F0 w0 19 [(0, .func (.yield lp) #[] #[]), (1, .pointer (some ⟨B, 0, none⟩)), (3, .int .i64 z)] [J pre, box B 43 [.slice A l.length c]] [slA A l]) (fun _ _ h => h) ?_
 refine cs ?_
 refine cs ?_
 refine cr ?_
 refine ls (op (p_move rfl) rfl) ?_
 refine ls (op (p_icmp rfl rfl rfl) rfl) ?_
 refine ln ?_
 refine nthen ?_
 refine cc rfl ?_ ?_
 ·
  intro h8
  dsimp only at hpre hz
  try simp only [decide_eq_true_eq, decide_eq_false_iff_not, Bool.not_eq_true', Bool.not_eq_false', Int.not_lt, Int.not_le, ge_iff_le, Bool.not_true, Bool.not_false] at h8
  have hk1 : l.length - 1 - pre.length < l.length := by omega
  refine cskip ?_
  refine nthen ?_
  refine cs ?_
  refine cb ?_
  refine cs ?_
  refine elC (by repeat (first | exact At.z | apply At.s)) (l.length - 1 - pre.length) (List.getElem?_eq_getElem (l := l) hk1) ?_; rintro zbp zop zyp hAp
  refine cr ?_
  refine ls (op (p_move rfl) rfl) ?_
  refine ls (op (p_move rfl) rfl) ?_
  refine ls (o_ld Tryz.isAgg43 rfl (by repeat (first | exact At.z | apply At.s)) (by repeat (first | exact At.z | apply At.s)) rfl) ?_
  refine ls (op (p_move rfl) rfl) ?_
  refine ls (op (p_ia (l.length - 1 - pre.length) hAp hk1 (by omega) Tryz.underlying43 Tryz.sizeOf31 rfl rfl) rfl) ?_
  refine ls (o_ldj Tryz.isAgg31 Tryz.sizeOf31 rfl (by repeat (first | exact At.z | apply At.s)) 0 rfl (by repeat (first | exact Cut.d | apply Cut.t | apply Cut.s)) rfl) ?_
  refine ls (o_yield (i := 0) rfl (by have := hY pre ⟨(l.length - 1 - pre.length, zyp), hk1⟩ (by dsimp only; omega); dsimp only at this; rw [show ((l.length - 1 - pre.length : Nat) : Int) = z by omega] at this; exact this) rfl rfl (by repeat (first | exact Sub.d | (refine Sub.s ?_ ?_; (repeat (first | exact In.z | apply In.s))) | (refine Sub.suf ?_; (repeat (first | exact Suf.z | apply Suf.s))))) rfl) ?_
  refine le ?_; intro bb
  refine ls (op (p_not rfl) rfl) ?_
  refine ln ?_
  refine nthen ?_
  refine cc rfl ?_ ?_
  ·
   intro h18
   obtain rfl : false = bb := by cases bb <;> first | rfl | (simp at h18)
   refine cret ?_
   refine xret (fun _ _ h => h) ?_
   refine rret (is := [0, 0]) ⟨none, fun _ h => by cases h⟩ (Or.inl rfl) Res.d (rfl) rfl (by repeat (first | exact Sub.d | (refine Sub.s ?_ ?_; (repeat (first | exact In.z | apply In.s))) | (refine Sub.suf ?_; (repeat (first | exact Suf.z | apply Suf.s)))))
  ·
   intro h18
   obtain rfl : true = bb := by cases bb <;> first | rfl | (simp at h18)
   refine cskip ?_
   refine nblock ?_
   refine nthen ?_
   refine cr ?_
   refine ls (op (p_move rfl) rfl) ?_
   refine ls (op (p_sub rfl rfl (by omega)) rfl) ?_
   refine ls (op (p_asg rfl) rfl) ?_
   refine ln ?_
   refine nnext ⟨(pre ++ [⟨(l.length - 1 - pre.length, zyp), hk1⟩], z - 1), by simp; omega, by simp; omega⟩ (by simp; omega) (wk (is := [0, 0]) (by repeat (first | exact subσ.nil _ | refine subσ.cons rfl ?_)) rfl (by repeat (first | exact Sub.d | (refine Sub.s ?_ ?_; (repeat (first | exact In.z | apply In.s))) | (refine Sub.suf ?_; (repeat (first | exact Suf.z | apply Suf.s))))))
 ·
  intro h8
  dsimp only at hpre hz
  try simp only [decide_eq_true_eq, decide_eq_false_iff_not, Bool.not_eq_true', Bool.not_eq_false', Int.not_lt, Int.not_le, ge_iff_le, Bool.not_true, Bool.not_false] at h8
  refine cexit ?_
  refine xthen ?_
  refine xthen ?_
  refine xblock ?_
  refine rret (is := [0, 0]) ⟨some pre, fun xs h => by cases h; omega⟩ (Or.inr rfl) Res.d (rfl) rfl (by repeat (first | exact Sub.d | (refine Sub.s ?_ ?_; (repeat (first | exact In.z | apply In.s))) | (refine Sub.suf ?_; (repeat (first | exact Suf.z | apply Suf.s)))))

set_option maxRecDepth 100000 in
theorem c_BackwardR1 (l : List Patch) (A : Option Addr) (c : Nat) (hl : l.length ≤ 2000000) (B : Nat) : Iter Tryz.prog 74 [.pointer (some ⟨B, 0, none⟩)] (fun x : {x : Nat × Rp.Lay Patch // x.1 < l.length} => [.int .i64 (x.1.1 : Int), sv (l[x.1.1]'x.2) x.1.2]) (fun x => Rp.asn (l[x.1.1]'x.2) x.1.2) (fun pre x => x.1.1 + pre.length + 1 = l.length) (fun xs => xs.length = l.length) [box B 43 [.slice A l.length c], row 31 A c l] [] := by
 intro lp J Jx hY
 refine con Tryz.func74 rfl Tryz.ntmps74 rfl ?_
 intro M0 F0 w0
 refine cs ?_
 refine cr ?_
 refine ls (o_ld Tryz.isAgg43 rfl (by repeat (first | exact At.z | apply At.s)) (by repeat (first | exact At.z | apply At.s)) rfl) ?_
 refine ls (op (p_lenl rfl Tryz.underlying43) rfl) ?_
 refine ls (op (p_sub rfl rfl (by omega)) rfl) ?_
 refine ls (op (p_asg rfl) rfl) ?_
 refine ln ?_
 refine nthen ?_
 refine cb ?_
 refine cl (ι := {q : List {x : Nat × Rp.Lay Patch // x.1 < l.length} × Int // q.1.length ≤ l.length ∧ q.2 = (l.length : Int) - 1 - (q.1.length : Int)}) (fun i => St M0 F0 w0 19 [(0, .func (.yield lp) #[] #[]), (1, .pointer (some ⟨B, 0, none⟩)), (3, .int .i64 i.1.2)] [J i.1.1, box B 43 [.slice A l.length c], row 31 A c l] []) (fun i => l.length - (i.1.1).length) ⟨([], (l.length : Int) - 1), Nat.zero_le _, by simp⟩ (wk0 (by repeat (first | exact subσ.nil _ | refine subσ.cons rfl ?_)) (by repeat (first | exact Sub.d | (refine Sub.s ?_ ?_; (repeat (first | exact In.z | apply In.s))) | (refine Sub.suf ?_; (repeat (first | exact Suf.z | apply Suf.s)))))) ?_
 rintro ⟨⟨pre, z⟩, hpre, hz⟩
 refine cmono (S' := St M0 F0 w0 19 [(0, .func (.yield lp) #[] #[]), (1, .pointer (some ⟨B, 0, none⟩)), (3, .int .i64 z)] [J pre, box B 43 [.slice A l.length c], row 31 A c l] []) (fun _ _ h => h) ?_
 refine cs ?_
 refine cs ?_
 refine cr ?_
 refine ls (op (p_move rfl) rfl) ?_
 refine ls (op (p_icmp rfl rfl rfl) rfl) ?_
 refine ln ?_
 refine nthen ?_
 refine cc rfl ?_ ?_
 ·
  intro h8
  dsimp only at hpre hz
  try simp only [decide_eq_true_eq, decide_eq_false_iff_not, Bool.not_eq_true', Bool.not_eq_false', Int.not_lt, Int.not_le, ge_iff_le, Bool.not_true, Bool.not_false] at h8
  have hk1 : l.length - 1 - pre.length < l.length := by omega
  refine cskip ?_
  refine nthen ?_
  refine cs ?_
  refine cb ?_
  refine cs ?_
  refine rowC (by repeat (first | exact At.z | apply At.s)) (fun e => absurd (show l.length = 0 by rw [e]; rfl) (by omega)) ?_; rintro g rfl
  refine cr ?_
  refine ls (op (p_move rfl) rfl) ?_
  refine ls (op (p_move rfl) rfl) ?_
  refine ls (o_ld Tryz.isAgg43 rfl (by repeat (first | exact At.z | apply At.s)) (by repeat (first | exact At.z | apply At.s)) rfl) ?_
  refine ls (op (p_move rfl) rfl) ?_
  refine ls (op (p_ia (l.length - 1 - pre.length) rfl hk1 (by omega) Tryz.underlying43 Tryz.sizeOf31 rfl rfl) rfl) ?_
  refine ls (o_ldrow Tryz.isAgg31 Tryz.sizeOf31 rfl (by repeat (first | exact At.z | apply At.s)) (List.getElem?_eq_getElem hk1) rfl) ?_
  refine le ?_; intro zyp
  refine ls (o_yield (i := 0) rfl (by have := hY pre ⟨(l.length - 1 - pre.length, zyp), hk1⟩ (by dsimp only; omega); dsimp only at this; rw [show ((l.length - 1 - pre.length : Nat) : Int) = z by omega] at this; exact this) rfl rfl (by repeat (first | exact Sub.d | (refine Sub.s ?_ ?_; (repeat (first | exact In.z | apply In.s))) | (refine Sub.suf ?_; (repeat (first | exact Suf.z | apply Suf.s))))) rfl) ?_
  refine le ?_; intro bb
  refine ls (op (p_not rfl) rfl) ?_
  refine ln ?_
  refine nthen ?_
  refine cc rfl ?_ ?_
  ·
   intro h18
   obtain rfl : false = bb := by cases bb <;> first | rfl | (simp at h18)
   refine cret ?_
   refine xret (fun _ _ h => h) ?_
   refine rret (is := [0, 0, 0]) ⟨none, fun _ h => by cases h⟩ (Or.inl rfl) Res.d (rfl) rfl (by repeat (first | exact Sub.d | (refine Sub.s ?_ ?_; (repeat (first | exact In.z | apply In.s))) | (refine Sub.suf ?_; (repeat (first | exact Suf.z | apply Suf.s)))))
  ·
   intro h18
   obtain rfl : true = bb := by cases bb <;> first | rfl | (simp at h18)
   refine cskip ?_
   refine nblock ?_
   refine nthen ?_
   refine cr ?_
   refine ls (op (p_move rfl) rfl) ?_
   refine ls (op (p_sub rfl rfl (by omega)) rfl) ?_
   refine ls (op (p_asg rfl) rfl) ?_
   refine ln ?_
   refine nnext ⟨(pre ++ [⟨(l.length - 1 - pre.length, zyp), hk1⟩], z - 1), by simp; omega, by simp; omega⟩ (by simp; omega) (wk (is := [0, 0, 0]) (by repeat (first | exact subσ.nil _ | refine subσ.cons rfl ?_)) rfl (by repeat (first | exact Sub.d | (refine Sub.s ?_ ?_; (repeat (first | exact In.z | apply In.s))) | (refine Sub.suf ?_; (repeat (first | exact Suf.z | apply Suf.s))))))
 ·
  intro h8
  dsimp only at hpre hz
  try simp only [decide_eq_true_eq, decide_eq_false_iff_not, Bool.not_eq_true', Bool.not_eq_false', Int.not_lt, Int.not_le, ge_iff_le, Bool.not_true, Bool.not_false] at h8
  refine cexit ?_
  refine xthen ?_
  refine xthen ?_
  refine xblock ?_
  refine rret (is := [0, 0, 0]) ⟨some pre, fun xs h => by cases h; omega⟩ (Or.inr rfl) Res.d (rfl) rfl (by repeat (first | exact Sub.d | (refine Sub.s ?_ ?_; (repeat (first | exact In.z | apply In.s))) | (refine Sub.suf ?_; (repeat (first | exact Suf.z | apply Suf.s)))))

set_option maxRecDepth 100000 in
theorem c_nPastD (l : List Patch) (A : Option Addr) (c : Nat) (hl : l.length ≤ 2000000) (hf : ∀ x ∈ l, x.fit) (q0 : Patch) (y : Rp.Lay Patch) (hq : q0.fit) : Con Tryz.prog 21 [.slice A l.length c, sv q0 y] [] [slA y.1.1 q0.deps, slA y.2.1 q0.l, slA A l] {x : (Patch × List Patch × Bool) × (Rp.Lay Patch × (Option Addr × Nat)) // x.1 = ppast l q0} (fun x => .tuple #[sv x.1.1.1 x.1.2.1, .slice x.1.2.2.1 x.1.1.2.1.length x.1.2.2.2, .bool x.1.1.2.2]) (fun x => [row 31 x.1.2.2.1 x.1.2.2.2 x.1.1.2.1]) (fun x => [slA x.1.2.1.1.1 x.1.1.1.deps, slA x.1.2.1.2.1 x.1.1.1.l]) := by
 refine con Tryz.func21 rfl Tryz.ntmps21 rfl ?_
 intro M0 F0 w0
 refine cs ?_
 refine cr ?_
 refine ls (o_box rfl rfl rfl) ?_
 refine le ?_; intro b3
 refine ls (o_alloc Tryz.zeroValue31 rfl rfl) ?_
 refine le ?_; intro b4
 refine ls (o_alloc Tryz.zeroValue43 rfl rfl) ?_
 refine le ?_; intro b5
 refine ls (o_alloc Tryz.zeroValue4 rfl rfl) ?_
 refine le ?_; intro b6
 refine ln ?_
 refine nthen ?_
 refine cs ?_
 refine cr ?_
 refine ls (op (p_move rfl) rfl) ?_
 refine ls (op (p_lenl rfl Tryz.underlying43) rfl) ?_
 refine ls (o_mk Patch.zero ((none, 0), (none, 0)) l.length Tryz.underlying43 inf31 rfl (by decide) (fun M w p hp => by simp only [Rp.asn, List.mem_cons, List.mem_nil_iff, or_false] at hp; rcases hp with rfl | rfl <;> exact slA_none M w) rfl rfl rfl rfl (by omega) (by omega) rfl) ?_
 refine le ?_; intro g
 rw [List.length_replicate]
 refine ls (o_st rfl Tryz.sizeOf43 rfl rfl rfl rfl rfl (by repeat (first | exact At.z | apply At.s)) (by repeat (first | exact Put.d | apply Put.t | apply Put.s)) (by repeat (first | exact SetAt.z | apply SetAt.s))) ?_
 refine ln ?_
 refine nthen ?_
 refine cs ?_
 refine cr ?_
 refine ls (o_ldw Tryz.isAgg31 Tryz.sizeOf31 rfl (by repeat (first | exact At.z | apply At.s)) (by rfl) rfl) ?_
 refine ls (o_call (is := []) Tryz.call16 (c_nClone q0 y hq) rfl rfl (by repeat (first | exact Sub.d | (refine Sub.s ?_ ?_; (repeat (first | exact In.z | apply In.s))) | (refine Sub.suf ?_; (repeat (first | exact Suf.z | apply Suf.s))))) rfl) ?_
 refine le ?_; intro y16
 refine ls (o_st rfl Tryz.sizeOf31 rfl rfl rfl rfl rfl (by repeat (first | exact At.z | apply At.s)) (by repeat (first | exact Put.d | apply Put.t | apply Put.s)) (by repeat (first | exact SetAt.z | apply SetAt.s))) ?_
 refine ln ?_
 refine nthen ?_
 refine cs ?_
 refine cs ?_
 refine cr ?_
 refine ls (op (p_move rfl) rfl) ?_
 refine ls (o_call (is := []) Tryz.call50 (c_BackwardP l A c) rfl rfl (by repeat (first | exact Sub.d | (refine Sub.s ?_ ?_; (repeat (first | exact In.z | apply In.s))) | (refine Sub.suf ?_; (repeat (first | exact Suf.z | apply Suf.s))))) rfl) ?_
 refine le ?_; intro b18
 refine ln ?_
 refine nthen ?_
 refine cb ?_
 rw [show List.replicate l.length Patch.zero = List.replicate (l.length - 0) Patch.zero ++ [] by simp]
 refine crng (ι := fun pre => {q : Patch × List Patch × Rp.Lay Patch // PP l q0 pre.length q.1 q.2.1}) rfl Tryz.call74 (c_BackwardP1 l A c hl b18) (fun _ => rfl) rfl (fun pre i => [box b4 31 (Rp.enc i.1.1 i.1.2.2), box b5 43 [.slice (some ⟨g, 0, none⟩) l.length l.length], box b6 4 [.bool false], row 31 (some ⟨g, 0, none⟩) l.length (List.replicate (l.length - pre.length) Patch.zero ++ i.1.2.1)]) (fun pre i => [slA i.1.2.2.1.1 i.1.1.deps, slA i.1.2.2.2.1 i.1.1.l]) (⟨(q0, [], y16), PP.start hq⟩) (Y := {u : Unit // ppast l q0 = (Patch.zero, [], false)}) (fun _ => [box b4 31 (Rp.enc Patch.zero ((none, 0), (none, 0))), box b5 43 [.slice none 0 0], box b6 4 [.bool false]]) (fun _ => []) (is := [4, 3, 2, 1, 0]) rfl (by repeat (first | exact Sub.d | (refine Sub.s ?_ ?_; (repeat (first | exact In.z | apply In.s))) | (refine Sub.suf ?_; (repeat (first | exact Suf.z | apply Suf.s))))) (by repeat (first | exact Sub.d | (refine Sub.s ?_ ?_; (repeat (first | exact In.z | apply In.s))) | (refine Sub.suf ?_; (repeat (first | exact Suf.z | apply Suf.s))))) ?_ ?_ ?_
 ·
  rintro M0 F0 w0 lp κ pre ⟨⟨k, yk⟩, hk⟩ hx ⟨⟨q, rest, yq⟩, hI⟩
  dsimp only at hk hx hI
  have hrl := hI.len; have hfk := hf _ (List.getElem_mem hk)
  refine cmono (S' := St M0 F0 w0 ⟨38, []⟩ [(4, .pointer (some ⟨b4, 0, none⟩)), (5, .pointer (some ⟨b5, 0, none⟩)), (6, .pointer (some ⟨b6, 0, none⟩)), (19, .int .i64 (k : Int)), (20, sv l[k] yk)] [lrec lp κ .ready none, box b4 31 (Rp.enc q yq), box b5 43 [.slice (some ⟨g, 0, none⟩) l.length l.length], box b6 4 [.bool false], row 31 (some ⟨g, 0, none⟩) l.length (List.replicate (l.length - pre.length) Patch.zero ++ rest)] [slA yq.1.1 q.deps, slA yq.2.1 q.l, slA yk.1.1 l[k].deps, slA yk.2.1 l[k].l]) (wk0 (by repeat (first | exact subσ.nil _ | refine subσ.cons rfl ?_)) (by repeat (first | exact Sub.d | (refine Sub.s ?_ ?_; (repeat (first | exact In.z | apply In.s))) | (refine Sub.suf ?_; (repeat (first | exact Suf.z | apply Suf.s)))))) ?_
  refine cs ?_
  refine cr ?_
  refine ls (op (p_asg rfl) rfl) ?_
  refine ln ?_
  refine nthen ?_
  refine cr ?_
  refine ls (o_alloc Tryz.zeroValue31 rfl rfl) ?_
  refine le ?_; intro b8
  refine ls (o_st rfl Tryz.sizeOf31 rfl rfl rfl rfl rfl (by repeat (first | exact At.z | apply At.s)) (by repeat (first | exact Put.d | apply Put.t | apply Put.s)) (by repeat (first | exact SetAt.z | apply SetAt.s))) ?_
  refine ln ?_
  refine nbegin (i := 1) rfl ?_
  refine cb ?_
  refine cs ?_
  refine cr ?_
  refine ls (o_ldw Tryz.isAgg31 Tryz.sizeOf31 rfl (by repeat (first | exact At.z | apply At.s)) (by rfl) rfl) ?_
  refine ls (o_ldw Tryz.isAgg31 Tryz.sizeOf31 rfl (by repeat (first | exact At.z | apply At.s)) (by rfl) rfl) ?_
  refine ls (o_call (is := []) Tryz.call17 (c_nSwap l[k] q yk yq hfk hI.fq) rfl rfl (by repeat (first | exact Sub.d | (refine Sub.s ?_ ?_; (repeat (first | exact In.z | apply In.s))) | (refine Sub.suf ?_; (repeat (first | exact Suf.z | apply Suf.s))))) rfl) ?_
  refine le ?_; rintro ⟨⟨⟨r1, r2, r3⟩, z1, z2⟩, hr⟩
  obtain ⟨e1, e2⟩ := pswap_fit2 hr hfk hI.fq; dsimp only at hr e1 e2
  refine ls (op (p_move rfl) rfl) ?_
  refine ls (op (p_ext rfl (by repeat (first | exact At.z | apply At.s))) rfl) ?_
  refine ls (op (p_ext rfl (by repeat (first | exact At.z | apply At.s))) rfl) ?_
  refine ls (op (p_ext rfl (by repeat (first | exact At.z | apply At.s))) rfl) ?_
  refine ls (o_alloc Tryz.zeroValue31 rfl rfl) ?_
  refine le ?_; intro b9
  refine ls (o_alloc Tryz.zeroValue31 rfl rfl) ?_
  refine le ?_; intro b10
  refine ls (o_st rfl Tryz.sizeOf31 rfl rfl rfl rfl rfl (by repeat (first | exact At.z | apply At.s)) (by repeat (first | exact Put.d | apply Put.t | apply Put.s)) (by repeat (first | exact SetAt.z | apply SetAt.s))) ?_
  refine ls (o_st rfl Tryz.sizeOf31 rfl rfl rfl rfl rfl (by repeat (first | exact At.z | apply At.s)) (by repeat (first | exact Put.d | apply Put.t | apply Put.s)) (by repeat (first | exact SetAt.z | apply SetAt.s))) ?_
  refine ls (op (p_asg rfl) rfl) ?_
  refine ln ?_
  refine nthen ?_
  refine cs ?_
  refine cs ?_
  refine cr ?_
  refine ls (op (p_move rfl) rfl) ?_
  refine ls (op (p_not rfl) rfl) ?_
  refine ln ?_
  refine nthen ?_
  refine cc rfl ?_ ?_
  ·
   intro h29
   obtain rfl : false = r3 := by cases r3 <;> first | rfl | (simp at h29)
   refine cs ?_
   refine cr ?_
   refine ls (op (p_bld sb31 rfl Fill.d) rfl) ?_
   refine ls (o_st rfl Tryz.sizeOf31 rfl rfl rfl rfl rfl (by repeat (first | exact At.z | apply At.s)) (by repeat (first | exact Put.d | apply Put.t | apply Put.s)) (by repeat (first | exact SetAt.z | apply SetAt.s))) ?_
   refine ls (o_st rfl Tryz.sizeOf43 rfl rfl rfl rfl rfl (by repeat (first | exact At.z | apply At.s)) (by repeat (first | exact Put.d | apply Put.t | apply Put.s)) (by repeat (first | exact SetAt.z | apply SetAt.s))) ?_
   refine ls (o_st rfl Tryz.sizeOf4 rfl rfl rfl rfl rfl (by repeat (first | exact At.z | apply At.s)) (by repeat (first | exact Put.d | apply Put.t | apply Put.s)) (by repeat (first | exact SetAt.z | apply SetAt.s))) ?_
   refine ln ?_
   refine nthen ?_
   refine cret ?_
   refine xretR (fun _ _ h => h) ?_
   exact nrret ⟨(), hI.stop (by omega) hr⟩ (is := [2, 3, 3, 3]) rfl (by repeat (first | exact Sub.d | (refine Sub.s ?_ ?_; (repeat (first | exact In.z | apply In.s))) | (refine Sub.suf ?_; (repeat (first | exact Suf.z | apply Suf.s)))))
  ·
   intro h29
   obtain rfl : true = r3 := by cases r3 <;> first | rfl | (simp at h29)
   refine cskip ?_
   refine nthen ?_
   refine cd [4, 6] [(0, b5, 0, _), (2, b9, 0, _), (3, b10, 0, _)] TryzX.mixed (TOk.t (isBoxS (by repeat (first | exact At.z | apply At.s)) (k := 1) (by repeat (first | exact Cut.d | apply Cut.t | apply Cut.s))) (TOk.t (isBoxS (by repeat (first | exact At.z | apply At.s)) (k := 4) (by repeat (first | exact Cut.d | apply Cut.t | apply Cut.s))) (TOk.t (isBoxS (by repeat (first | exact At.z | apply At.s)) (k := 4) (by repeat (first | exact Cut.d | apply Cut.t | apply Cut.s))) TOk.d))) ?_
   refine tk 0 rfl (by kernel_rfl) (fun _ _ _ h => h) gnone (TTat (List.Mem.head _)) (p_ld Tryz.isAgg43 rfl) rfl ?_
   refine tk 1 rfl (by kernel_rfl) (fun _ _ _ h => h) gnone (TTany _) (p_move rfl) rfl ?_
   refine tk 2 rfl (by kernel_rfl) (fun _ _ _ h => h) gnone (TTat (List.Mem.tail _ (List.Mem.head _))) (p_lda Tryz.isAgg31 Tryz.sizeOf31 rfl rfl) rfl ?_
   refine tk 3 rfl (by kernel_rfl) (fun _ _ _ h => h) gnone (TTat (List.Mem.tail _ (List.Mem.tail _ (List.Mem.head _)))) (p_lda Tryz.isAgg31 Tryz.sizeOf31 rfl rfl) rfl ?_
   refine df 4 (by kernel_rfl) ?_
   refine doR rfl (o_st rfl Tryz.sizeOf31 rfl rfl rfl rfl rfl (by repeat (first | exact At.z | apply At.s)) (by repeat (first | exact Put.d | apply Put.t | apply Put.s)) (by repeat (first | exact SetAt.z | apply SetAt.s))) (TOk.t (isBoxS (by repeat (first | exact At.z | apply At.s)) (k := 1) (by repeat (first | exact Cut.d | apply Cut.t | apply Cut.s))) (TOk.x (by kernel_rfl) (TOk.t (isBoxS (by repeat (first | exact At.z | apply At.s)) (k := 4) (by repeat (first | exact Cut.d | apply Cut.t | apply Cut.s))) TOk.d))) ?_
   refine tk 5 rfl (by kernel_rfl) (fun _ _ _ h => h) gnone (TTany _) (p_ia k rfl hk rfl Tryz.underlying43 Tryz.sizeOf31 rfl rfl) rfl ?_
   refine df 6 (by kernel_rfl) ?_
   refine doR rfl (o_strow (z := r2) (yz := z2) rfl Tryz.sizeOf31 rfl rfl rfl (by repeat (first | exact At.z | apply At.s)) (by simp; omega) (by repeat (first | exact SetAt.z | apply SetAt.s)) (by repeat (first | exact Sub.d | (refine Sub.s ?_ ?_; (repeat (first | exact In.z | apply In.s))) | (refine Sub.suf ?_; (repeat (first | exact Suf.z | apply Suf.s)))))) (TOk.x (by kernel_rfl) (TOk.x (by kernel_rfl) (TOk.x (by kernel_rfl) TOk.d))) ?_
   refine dn (by kernel_rfl) ?_
   refine nblock ?_
   rw [rep_set (by omega), show pre.length + 1 = (pre ++ [(⟨(k, yk), hk⟩ : {x : Nat × Rp.Lay Patch // x.1 < l.length})]).length by simp]
   exact nround ⟨(r1, r2 :: rest, z1), by rw [List.length_append]; exact hI.step (by omega) hf hr⟩ (is := [2, 3, 3, 3, 3]) rfl (by repeat (first | exact Sub.d | (refine Sub.s ?_ ?_; (repeat (first | exact In.z | apply In.s))) | (refine Sub.suf ?_; (repeat (first | exact Suf.z | apply Suf.s)))))
 ·
  rintro D xs hC ⟨⟨q, rest, yq⟩, hI⟩
  dsimp only at hC hI
  have hd := hI.done hC; have hrl := hI.len
  rw [show List.replicate (l.length - xs.length) Patch.zero ++ rest = rest by rw [hC]; simp]
  refine nblock ?_
  refine nthen ?_
  refine cs ?_
  skip
  refine cd [2, 3, 4] [(0, b4, 0, _), (1, b5, 0, _)] TryzX.mixed (TOk.t (isBoxS (by repeat (first | exact At.z | apply At.s)) (k := 4) (by repeat (first | exact Cut.d | apply Cut.t | apply Cut.s))) (TOk.t (isBoxS (by repeat (first | exact At.z | apply At.s)) (k := 1) (by repeat (first | exact Cut.d | apply Cut.t | apply Cut.s))) TOk.d)) ?_
  refine tk 0 rfl (by kernel_rfl) (fun _ _ _ h => h) gnone (TTat (List.Mem.head _)) (p_lda Tryz.isAgg31 Tryz.sizeOf31 rfl rfl) rfl ?_
  refine tk 1 rfl (by kernel_rfl) (fun _ _ _ h => h) gnone (TTat (List.Mem.tail _ (List.Mem.head _))) (p_ld Tryz.isAgg43 rfl) rfl ?_
  refine df 2 (by kernel_rfl) ?_
  refine doR rfl (o_st rfl Tryz.sizeOf31 rfl rfl rfl rfl rfl (by repeat (first | exact At.z | apply At.s)) (by repeat (first | exact Put.d | apply Put.t | apply Put.s)) (by repeat (first | exact SetAt.z | apply SetAt.s))) (TOk.x (by kernel_rfl) (TOk.t (isBoxS (by repeat (first | exact At.z | apply At.s)) (k := 1) (by repeat (first | exact Cut.d | apply Cut.t | apply Cut.s))) TOk.d)) ?_
  refine df 3 (by kernel_rfl) ?_
  refine doR rfl (o_st rfl Tryz.sizeOf43 rfl rfl rfl rfl rfl (by repeat (first | exact At.z | apply At.s)) (by repeat (first | exact Put.d | apply Put.t | apply Put.s)) (by repeat (first | exact SetAt.z | apply SetAt.s))) (TOk.x (by kernel_rfl) (TOk.x (by kernel_rfl) TOk.d)) ?_
  refine df 4 (by kernel_rfl) ?_
  refine doR rfl (o_st rfl Tryz.sizeOf4 rfl rfl rfl rfl rfl (by repeat (first | exact At.z | apply At.s)) (by repeat (first | exact Put.d | apply Put.t | apply Put.s)) (by repeat (first | exact SetAt.z | apply SetAt.s))) (TOk.x (by kernel_rfl) (TOk.x (by kernel_rfl) TOk.d)) ?_
  refine dn (by kernel_rfl) ?_
  refine nthen ?_
  refine cret ?_
  refine xret (fun _ _ h => h) ?_
  refine rretm (Dfr.c (i := 5) rfl Dfr.d) (is := [3]) ⟨((q, rest, true), (yq, (some ⟨g, 0, none⟩, l.length))), hd.symm⟩ (Or.inl rfl) (Res.c rfl Tryz.isAgg31 Tryz.sizeOf31 (by repeat (first | exact At.z | apply At.s)) (by rfl) (Res.c1 rfl Tryz.isAgg43 (by repeat (first | exact At.z | apply At.s)) (Res.c1 rfl Tryz.isAgg4 (by repeat (first | exact At.z | apply At.s)) Res.d))) ?_ rfl (by repeat (first | exact Sub.d | (refine Sub.s ?_ ?_; (repeat (first | exact In.z | apply In.s))) | (refine Sub.suf ?_; (repeat (first | exact Suf.z | apply Suf.s)))))
  dsimp only [packV]; rw [show rest.length = l.length by omega]; rfl
 ·
  rintro D ⟨_, hst⟩
  refine nmono (fun a w h => nilSl (α := Prim) h) ?_
  refine nmono (fun a w h => nilSl (α := Int) h) ?_
  refine nmono (fun a w h => nilRow (α := Patch) 31 h) ?_
  refine xret (fun _ _ h => h) ?_
  refine rretm (Dfr.c (i := 5) rfl Dfr.d) (is := [0]) ⟨((Patch.zero, [], false), (((none, 0), (none, 0)), (none, 0))), hst.symm⟩ (Or.inl rfl) (Res.c rfl Tryz.isAgg31 Tryz.sizeOf31 (by repeat (first | exact At.z | apply At.s)) (by rfl) (Res.c1 rfl Tryz.isAgg43 (by repeat (first | exact At.z | apply At.s)) (Res.c1 rfl Tryz.isAgg4 (by repeat (first | exact At.z | apply At.s)) Res.d))) (rfl) rfl (by repeat (first | exact Sub.d | (refine Sub.s ?_ ?_; (repeat (first | exact In.z | apply In.s))) | (refine Sub.suf ?_; (repeat (first | exact Suf.z | apply Suf.s)))))

set_option maxRecDepth 100000 in
theorem c_nPastR (l : List Patch) (A : Option Addr) (c : Nat) (hl : l.length ≤ 2000000) (hf : ∀ x ∈ l, x.fit) (q0 : Patch) (y : Rp.Lay Patch) (hq : q0.fit) : Con Tryz.prog 21 [.slice A l.length c, sv q0 y] [row 31 A c l] [slA y.1.1 q0.deps, slA y.2.1 q0.l] {x : (Patch × List Patch × Bool) × (Rp.Lay Patch × (Option Addr × Nat)) // x.1 = ppast l q0} (fun x => .tuple #[sv x.1.1.1 x.1.2.1, .slice x.1.2.2.1 x.1.1.2.1.length x.1.2.2.2, .bool x.1.1.2.2]) (fun x => [row 31 x.1.2.2.1 x.1.2.2.2 x.1.1.2.1, row 31 A c l]) (fun x => [slA x.1.2.1.1.1 x.1.1.1.deps, slA x.1.2.1.2.1 x.1.1.1.l]) := by
 refine con Tryz.func21 rfl Tryz.ntmps21 rfl ?_
 intro M0 F0 w0
 refine cs ?_
 refine cr ?_
 refine ls (o_box rfl rfl rfl) ?_
 refine le ?_; intro b3
 refine ls (o_alloc Tryz.zeroValue31 rfl rfl) ?_
 refine le ?_; intro b4
 refine ls (o_alloc Tryz.zeroValue43 rfl rfl) ?_
 refine le ?_; intro b5
 refine ls (o_alloc Tryz.zeroValue4 rfl rfl) ?_
 refine le ?_; intro b6
 refine ln ?_
 refine nthen ?_
 refine cs ?_
 refine cr ?_
 refine ls (op (p_move rfl) rfl) ?_
 refine ls (op (p_lenl rfl Tryz.underlying43) rfl) ?_
 refine ls (o_mk Patch.zero ((none, 0), (none, 0)) l.length Tryz.underlying43 inf31 rfl (by decide) (fun M w p hp => by simp only [Rp.asn, List.mem_cons, List.mem_nil_iff, or_false] at hp; rcases hp with rfl | rfl <;> exact slA_none M w) rfl rfl rfl rfl (by omega) (by omega) rfl) ?_
 refine le ?_; intro g
 rw [List.length_replicate]
 refine ls (o_st rfl Tryz.sizeOf43 rfl rfl rfl rfl rfl (by repeat (first | exact At.z | apply At.s)) (by repeat (first | exact Put.d | apply Put.t | apply Put.s)) (by repeat (first | exact SetAt.z | apply SetAt.s))) ?_
 refine ln ?_
 refine nthen ?_
 refine cs ?_
 refine cr ?_
 refine ls (o_ldw Tryz.isAgg31 Tryz.sizeOf31 rfl (by repeat (first | exact At.z | apply At.s)) (by rfl) rfl) ?_
 refine ls (o_call (is := []) Tryz.call16 (c_nClone q0 y hq) rfl rfl (by repeat (first | exact Sub.d | (refine Sub.s ?_ ?_; (repeat (first | exact In.z | apply In.s))) | (refine Sub.suf ?_; (repeat (first | exact Suf.z | apply Suf.s))))) rfl) ?_
 refine le ?_; intro y16
 refine ls (o_st rfl Tryz.sizeOf31 rfl rfl rfl rfl rfl (by repeat (first | exact At.z | apply At.s)) (by repeat (first | exact Put.d | apply Put.t | apply Put.s)) (by repeat (first | exact SetAt.z | apply SetAt.s))) ?_
 refine ln ?_
 refine nthen ?_
 refine cs ?_
 refine cs ?_
 refine cr ?_
 refine ls (op (p_move rfl) rfl) ?_
 refine ls (o_call (is := []) Tryz.call50 (c_BackwardP l A c) rfl rfl (by repeat (first | exact Sub.d | (refine Sub.s ?_ ?_; (repeat (first | exact In.z | apply In.s))) | (refine Sub.suf ?_; (repeat (first | exact Suf.z | apply Suf.s))))) rfl) ?_
 refine le ?_; intro b18
 refine ln ?_
 refine nthen ?_
 refine cb ?_
 rw [show List.replicate l.length Patch.zero = List.replicate (l.length - 0) Patch.zero ++ [] by simp]
 refine crng (ι := fun pre => {q : Patch × List Patch × Rp.Lay Patch // PP l q0 pre.length q.1 q.2.1}) rfl Tryz.call74 (c_BackwardR1 l A c hl b18) (fun _ => rfl) rfl (fun pre i => [box b4 31 (Rp.enc i.1.1 i.1.2.2), box b5 43 [.slice (some ⟨g, 0, none⟩) l.length l.length], box b6 4 [.bool false], row 31 (some ⟨g, 0, none⟩) l.length (List.replicate (l.length - pre.length) Patch.zero ++ i.1.2.1)]) (fun pre i => [slA i.1.2.2.1.1 i.1.1.deps, slA i.1.2.2.2.1 i.1.1.l]) (⟨(q0, [], y16), PP.start hq⟩) (Y := {u : Unit // ppast l q0 = (Patch.zero, [], false)}) (fun _ => [box b4 31 (Rp.enc Patch.zero ((none, 0), (none, 0))), box b5 43 [.slice none 0 0], box b6 4 [.bool false]]) (fun _ => []) (is := [4, 3, 2, 1, 0, 1]) rfl (by repeat (first | exact Sub.d | (refine Sub.s ?_ ?_; (repeat (first | exact In.z | apply In.s))) | (refine Sub.suf ?_; (repeat (first | exact Suf.z | apply Suf.s))))) (by repeat (first | exact Sub.d | (refine Sub.s ?_ ?_; (repeat (first | exact In.z | apply In.s))) | (refine Sub.suf ?_; (repeat (first | exact Suf.z | apply Suf.s))))) ?_ ?_ ?_
 ·
  rintro M0 F0 w0 lp κ pre ⟨⟨k, yk⟩, hk⟩ hx ⟨⟨q, rest, yq⟩, hI⟩
  dsimp only at hk hx hI
  have hrl := hI.len; have hfk := hf _ (List.getElem_mem hk)
  refine cmono (S' := St M0 F0 w0 ⟨38, []⟩ [(4, .pointer (some ⟨b4, 0, none⟩)), (5, .pointer (some ⟨b5, 0, none⟩)), (6, .pointer (some ⟨b6, 0, none⟩)), (19, .int .i64 (k : Int)), (20, sv l[k] yk)] [lrec lp κ .ready none, box b4 31 (Rp.enc q yq), box b5 43 [.slice (some ⟨g, 0, none⟩) l.length l.length], box b6 4 [.bool false], row 31 (some ⟨g, 0, none⟩) l.length (List.replicate (l.length - pre.length) Patch.zero ++ rest)] [slA yq.1.1 q.deps, slA yq.2.1 q.l, slA yk.1.1 l[k].deps, slA yk.2.1 l[k].l]) (wk0 (by repeat (first | exact subσ.nil _ | refine subσ.cons rfl ?_)) (by repeat (first | exact Sub.d | (refine Sub.s ?_ ?_; (repeat (first | exact In.z | apply In.s))) | (refine Sub.suf ?_; (repeat (first | exact Suf.z | apply Suf.s)))))) ?_
  refine cs ?_
  refine cr ?_
  refine ls (op (p_asg rfl) rfl) ?_
  refine ln ?_
  refine nthen ?_
  refine cr ?_
  refine ls (o_alloc Tryz.zeroValue31 rfl rfl) ?_
  refine le ?_; intro b8
  refine ls (o_st rfl Tryz.sizeOf31 rfl rfl rfl rfl rfl (by repeat (first | exact At.z | apply At.s)) (by repeat (first | exact Put.d | apply Put.t | apply Put.s)) (by repeat (first | exact SetAt.z | apply SetAt.s))) ?_
  refine ln ?_
  refine nbegin (i := 1) rfl ?_
  refine cb ?_
  refine cs ?_
  refine cr ?_
  refine ls (o_ldw Tryz.isAgg31 Tryz.sizeOf31 rfl (by repeat (first | exact At.z | apply At.s)) (by rfl) rfl) ?_
  refine ls (o_ldw Tryz.isAgg31 Tryz.sizeOf31 rfl (by repeat (first | exact At.z | apply At.s)) (by rfl) rfl) ?_
  refine ls (o_call (is := []) Tryz.call17 (c_nSwap l[k] q yk yq hfk hI.fq) rfl rfl (by repeat (first | exact Sub.d | (refine Sub.s ?_ ?_; (repeat (first | exact In.z | apply In.s))) | (refine Sub.suf ?_; (repeat (first | exact Suf.z | apply Suf.s))))) rfl) ?_
  refine le ?_; rintro ⟨⟨⟨r1, r2, r3⟩, z1, z2⟩, hr⟩
  obtain ⟨e1, e2⟩ := pswap_fit2 hr hfk hI.fq; dsimp only at hr e1 e2
  refine ls (op (p_move rfl) rfl) ?_
  refine ls (op (p_ext rfl (by repeat (first | exact At.z | apply At.s))) rfl) ?_
  refine ls (op (p_ext rfl (by repeat (first | exact At.z | apply At.s))) rfl) ?_
  refine ls (op (p_ext rfl (by repeat (first | exact At.z | apply At.s))) rfl) ?_
  refine ls (o_alloc Tryz.zeroValue31 rfl rfl) ?_
  refine le ?_; intro b9
  refine ls (o_alloc Tryz.zeroValue31 rfl rfl) ?_
  refine le ?_; intro b10
  refine ls (o_st rfl Tryz.sizeOf31 rfl rfl rfl rfl rfl (by repeat (first | exact At.z | apply At.s)) (by repeat (first | exact Put.d | apply Put.t | apply Put.s)) (by repeat (first | exact SetAt.z | apply SetAt.s))) ?_
  refine ls (o_st rfl Tryz.sizeOf31 rfl rfl rfl rfl rfl (by repeat (first | exact At.z | apply At.s)) (by repeat (first | exact Put.d | apply Put.t | apply Put.s)) (by repeat (first | exact SetAt.z | apply SetAt.s))) ?_
  refine ls (op (p_asg rfl) rfl) ?_
  refine ln ?_
  refine nthen ?_
  refine cs ?_
  refine cs ?_
  refine cr ?_
  refine ls (op (p_move rfl) rfl) ?_
  refine ls (op (p_not rfl) rfl) ?_
  refine ln ?_
  refine nthen ?_
  refine cc rfl ?_ ?_
  ·
   intro h29
   obtain rfl : false = r3 := by cases r3 <;> first | rfl | (simp at h29)
   refine cs ?_
   refine cr ?_
   refine ls (op (p_bld sb31 rfl Fill.d) rfl) ?_
   refine ls (o_st rfl Tryz.sizeOf31 rfl rfl rfl rfl rfl (by repeat (first | exact At.z | apply At.s)) (by repeat (first | exact Put.d | apply Put.t | apply Put.s)) (by repeat (first | exact SetAt.z | apply SetAt.s))) ?_
   refine ls (o_st rfl Tryz.sizeOf43 rfl rfl rfl rfl rfl (by repeat (first | exact At.z | apply At.s)) (by repeat (first | exact Put.d | apply Put.t | apply Put.s)) (by repeat (first | exact SetAt.z | apply SetAt.s))) ?_
   refine ls (o_st rfl Tryz.sizeOf4 rfl rfl rfl rfl rfl (by repeat (first | exact At.z | apply At.s)) (by repeat (first | exact Put.d | apply Put.t | apply Put.s)) (by repeat (first | exact SetAt.z | apply SetAt.s))) ?_
   refine ln ?_
   refine nthen ?_
   refine cret ?_
   refine xretR (fun _ _ h => h) ?_
   exact nrret ⟨(), hI.stop (by omega) hr⟩ (is := [2, 3, 3, 3]) rfl (by repeat (first | exact Sub.d | (refine Sub.s ?_ ?_; (repeat (first | exact In.z | apply In.s))) | (refine Sub.suf ?_; (repeat (first | exact Suf.z | apply Suf.s)))))
  ·
   intro h29
   obtain rfl : true = r3 := by cases r3 <;> first | rfl | (simp at h29)
   refine cskip ?_
   refine nthen ?_
   refine cd [4, 6] [(0, b5, 0, _), (2, b9, 0, _), (3, b10, 0, _)] TryzX.mixed (TOk.t (isBoxS (by repeat (first | exact At.z | apply At.s)) (k := 1) (by repeat (first | exact Cut.d | apply Cut.t | apply Cut.s))) (TOk.t (isBoxS (by repeat (first | exact At.z | apply At.s)) (k := 4) (by repeat (first | exact Cut.d | apply Cut.t | apply Cut.s))) (TOk.t (isBoxS (by repeat (first | exact At.z | apply At.s)) (k := 4) (by repeat (first | exact Cut.d | apply Cut.t | apply Cut.s))) TOk.d))) ?_
   refine tk 0 rfl (by kernel_rfl) (fun _ _ _ h => h) gnone (TTat (List.Mem.head _)) (p_ld Tryz.isAgg43 rfl) rfl ?_
   refine tk 1 rfl (by kernel_rfl) (fun _ _ _ h => h) gnone (TTany _) (p_move rfl) rfl ?_
   refine tk 2 rfl (by kernel_rfl) (fun _ _ _ h => h) gnone (TTat (List.Mem.tail _ (List.Mem.head _))) (p_lda Tryz.isAgg31 Tryz.sizeOf31 rfl rfl) rfl ?_
   refine tk 3 rfl (by kernel_rfl) (fun _ _ _ h => h) gnone (TTat (List.Mem.tail _ (List.Mem.tail _ (List.Mem.head _)))) (p_lda Tryz.isAgg31 Tryz.sizeOf31 rfl rfl) rfl ?_
   refine df 4 (by kernel_rfl) ?_
   refine doR rfl (o_st rfl Tryz.sizeOf31 rfl rfl rfl rfl rfl (by repeat (first | exact At.z | apply At.s)) (by repeat (first | exact Put.d | apply Put.t | apply Put.s)) (by repeat (first | exact SetAt.z | apply SetAt.s))) (TOk.t (isBoxS (by repeat (first | exact At.z | apply At.s)) (k := 1) (by repeat (first | exact Cut.d | apply Cut.t | apply Cut.s))) (TOk.x (by kernel_rfl) (TOk.t (isBoxS (by repeat (first | exact At.z | apply At.s)) (k := 4) (by repeat (first | exact Cut.d | apply Cut.t | apply Cut.s))) TOk.d))) ?_
   refine tk 5 rfl (by kernel_rfl) (fun _ _ _ h => h) gnone (TTany _) (p_ia k rfl hk rfl Tryz.underlying43 Tryz.sizeOf31 rfl rfl) rfl ?_
   refine df 6 (by kernel_rfl) ?_
   refine doR rfl (o_strow (z := r2) (yz := z2) rfl Tryz.sizeOf31 rfl rfl rfl (by repeat (first | exact At.z | apply At.s)) (by simp; omega) (by repeat (first | exact SetAt.z | apply SetAt.s)) (by repeat (first | exact Sub.d | (refine Sub.s ?_ ?_; (repeat (first | exact In.z | apply In.s))) | (refine Sub.suf ?_; (repeat (first | exact Suf.z | apply Suf.s)))))) (TOk.x (by kernel_rfl) (TOk.x (by kernel_rfl) (TOk.x (by kernel_rfl) TOk.d))) ?_
   refine dn (by kernel_rfl) ?_
   refine nblock ?_
   rw [rep_set (by omega), show pre.length + 1 = (pre ++ [(⟨(k, yk), hk⟩ : {x : Nat × Rp.Lay Patch // x.1 < l.length})]).length by simp]
   exact nround ⟨(r1, r2 :: rest, z1), by rw [List.length_append]; exact hI.step (by omega) hf hr⟩ (is := [2, 3, 3, 3, 3]) rfl (by repeat (first | exact Sub.d | (refine Sub.s ?_ ?_; (repeat (first | exact In.z | apply In.s))) | (refine Sub.suf ?_; (repeat (first | exact Suf.z | apply Suf.s)))))
 ·
  rintro D xs hC ⟨⟨q, rest, yq⟩, hI⟩
  dsimp only at hC hI
  have hd := hI.done hC; have hrl := hI.len
  rw [show List.replicate (l.length - xs.length) Patch.zero ++ rest = rest by rw [hC]; simp]
  refine nblock ?_
  refine nthen ?_
  refine cs ?_
  skip
  refine cd [2, 3, 4] [(0, b4, 0, _), (1, b5, 0, _)] TryzX.mixed (TOk.t (isBoxS (by repeat (first | exact At.z | apply At.s)) (k := 4) (by repeat (first | exact Cut.d | apply Cut.t | apply Cut.s))) (TOk.t (isBoxS (by repeat (first | exact At.z | apply At.s)) (k := 1) (by repeat (first | exact Cut.d | apply Cut.t | apply Cut.s))) TOk.d)) ?_
  refine tk 0 rfl (by kernel_rfl) (fun _ _ _ h => h) gnone (TTat (List.Mem.head _)) (p_lda Tryz.isAgg31 Tryz.sizeOf31 rfl rfl) rfl ?_
  refine tk 1 rfl (by kernel_rfl) (fun _ _ _ h => h) gnone (TTat (List.Mem.tail _ (List.Mem.head _))) (p_ld Tryz.isAgg43 rfl) rfl ?_
  refine df 2 (by kernel_rfl) ?_
  refine doR rfl (o_st rfl Tryz.sizeOf31 rfl rfl rfl rfl rfl (by repeat (first | exact At.z | apply At.s)) (by repeat (first | exact Put.d | apply Put.t | apply Put.s)) (by repeat (first | exact SetAt.z | apply SetAt.s))) (TOk.x (by kernel_rfl) (TOk.t (isBoxS (by repeat (first | exact At.z | apply At.s)) (k := 1) (by repeat (first | exact Cut.d | apply Cut.t | apply Cut.s))) TOk.d)) ?_
  refine df 3 (by kernel_rfl) ?_
  refine doR rfl (o_st rfl Tryz.sizeOf43 rfl rfl rfl rfl rfl (by repeat (first | exact At.z | apply At.s)) (by repeat (first | exact Put.d | apply Put.t | apply Put.s)) (by repeat (first | exact SetAt.z | apply SetAt.s))) (TOk.x (by kernel_rfl) (TOk.x (by kernel_rfl) TOk.d)) ?_
  refine df 4 (by kernel_rfl) ?_
  refine doR rfl (o_st rfl Tryz.sizeOf4 rfl rfl rfl rfl rfl (by repeat (first | exact At.z | apply At.s)) (by repeat (first | exact Put.d | apply Put.t | apply Put.s)) (by repeat (first | exact SetAt.z | apply SetAt.s))) (TOk.x (by kernel_rfl) (TOk.x (by kernel_rfl) TOk.d)) ?_
  refine dn (by kernel_rfl) ?_
  refine nthen ?_
  refine cret ?_
  refine xret (fun _ _ h => h) ?_
  refine rretm (Dfr.c (i := 6) rfl Dfr.d) (is := [3, 4]) ⟨((q, rest, true), (yq, (some ⟨g, 0, none⟩, l.length))), hd.symm⟩ (Or.inl rfl) (Res.c rfl Tryz.isAgg31 Tryz.sizeOf31 (by repeat (first | exact At.z | apply At.s)) (by rfl) (Res.c1 rfl Tryz.isAgg43 (by repeat (first | exact At.z | apply At.s)) (Res.c1 rfl Tryz.isAgg4 (by repeat (first | exact At.z | apply At.s)) Res.d))) ?_ rfl (by repeat (first | exact Sub.d | (refine Sub.s ?_ ?_; (repeat (first | exact In.z | apply In.s))) | (refine Sub.suf ?_; (repeat (first | exact Suf.z | apply Suf.s)))))
  dsimp only [packV]; rw [show rest.length = l.length by omega]; rfl
 ·
  rintro D ⟨_, hst⟩
  refine nmono (fun a w h => nilSl (α := Prim) h) ?_
  refine nmono (fun a w h => nilSl (α := Int) h) ?_
  refine nmono (fun a w h => nilRow (α := Patch) 31 h) ?_
  refine xret (fun _ _ h => h) ?_
  refine rretm (Dfr.c (i := 6) rfl Dfr.d) (is := [0, 4]) ⟨((Patch.zero, [], false), (((none, 0), (none, 0)), (none, 0))), hst.symm⟩ (Or.inl rfl) (Res.c rfl Tryz.isAgg31 Tryz.sizeOf31 (by repeat (first | exact At.z | apply At.s)) (by rfl) (Res.c1 rfl Tryz.isAgg43 (by repeat (first | exact At.z | apply At.s)) (Res.c1 rfl Tryz.isAgg4 (by repeat (first | exact At.z | apply At.s)) Res.d))) (rfl) rfl (by repeat (first | exact Sub.d | (refine Sub.s ?_ ?_; (repeat (first | exact In.z | apply In.s))) | (refine Sub.suf ?_; (repeat (first | exact Suf.z | apply Suf.s)))))

end Go.Proofs.YtogcgfdfabnjhaaGreatDoor.X

end
