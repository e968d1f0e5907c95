/- OWN WORK: a part of the proof of a law of the seat YtdbiillompeclaaDoor: contracts. -/
import Derived.Test.YtdbiillompeclaaDoorProg
import Derived.Test.YtdbiillompeclaaDoorXGD
import Derived.Test.YtdbiillompeclaaDoorXGC
import Derived.Test.YtdbiillompeclaaDoorXGA
import Derived.Test.YtdbiillompeclaaDoorXGB
import Derived.Lib.AppendStr
import Derived.Lib.UnsafeStr
import Derived.Lib.Builder
import Derived.Lib.ItoaNum
section
set_option linter.unusedVariables false
set_option linter.unusedSimpArgs false
namespace Go.Proofs.YtdbiillompeclaaDoor.X
open Go Go.RowKit Go.Proofs Go.Sx
attribute [local irreducible] slA isA box row


set_option maxRecDepth 100000 in
theorem c_Few02 (l : List TOp) (A : Option Addr) (c : Nat) (hl : l.length ≤ 2000000) (hM : omany l ≤ 1000000000000) : Con Tryd.prog 15 [.slice A l.length c] [] [slA A l] Unit (fun _ => .int .i64 (fewO l)) (fun _ => []) (fun _ => []) := by
 refine con Tryd.func15 rfl Tryd.ntmps15 rfl ?_
 intro M0 F0 w0
 refine cs ?_
 refine cr ?_
 refine ls (op (p_asg rfl) rfl) ?_
 refine ln ?_
 refine nthen ?_
 refine cs ?_
 refine cr ?_
 refine ls (op (p_asg rfl) rfl) ?_
 refine ln ?_
 refine nthen ?_
 refine cs ?_
 refine cs ?_
 refine cr ?_
 refine ls (op (p_move rfl) rfl) ?_
 refine ls (op (p_lenl rfl Tryd.underlying37) rfl) ?_
 refine ls (op (p_move rfl) rfl) ?_
 refine ln ?_
 refine nthen ?_
 refine cb ?_
 refine cl (ι := {q : Nat × Int // q.1 ≤ l.length ∧ q.2 = ((omany (l.take q.1) : Nat) : Int)}) (fun i => St M0 F0 w0 51 [(0, .slice A l.length c), (8, .slice A l.length c), (9, .int .i64 (l.length : Int)), (10, .int .i64 (i.1.1 : Int)), (3, .int .i64 i.1.2)] [] [slA A l]) (fun i => l.length - i.1.1) ⟨(0, 0), by simp [omany]⟩ (wk0 (by repeat (first | exact subσ.nil _ | refine subσ.cons rfl ?_)) (by repeat' (first | constructor | apply Sub.suf))) ?_
 rintro ⟨⟨k, n⟩, hk, hn⟩
 refine cmono (S' := St M0 F0 w0 51 [(0, .slice A l.length c), (8, .slice A l.length c), (9, .int .i64 (l.length : Int)), (10, .int .i64 (k : Int)), (3, .int .i64 n)] [] [slA A l]) (fun _ _ h => h) ?_
 refine cs ?_
 refine cr ?_
 refine ls (op (p_icmp rfl rfl rfl) rfl) ?_
 refine ln ?_
 refine nthen ?_
 refine cs ?_
 refine cc rfl ?_ ?_
 ·
  intro h11
  dsimp only at hk hn
  try simp only [decide_eq_true_eq, decide_eq_false_iff_not, Bool.not_eq_true', Bool.not_eq_false', Int.not_lt, Int.not_le, ge_iff_le, Bool.not_true, Bool.not_false] at h11
  have hk1 : k < l.length := by omega
  have hs : omany (l.take (k + 1)) = omany (l.take k) + l[k].many := sum_take_succ (f := TOp.many) hk1
  have ht : omany (l.take (k + 1)) ≤ omany l := sum_take_le TOp.many l (k + 1)
  have hu : l[k].many = l[k].name.size + l[k].to.size + l[k].l.length + sizes l[k].l := rfl
  refine cskip ?_
  refine nthen ?_
  refine cs ?_
  refine cb ?_
  refine cs ?_
  refine elC (by repeat' constructor) k (List.getElem?_eq_getElem (l := l) hk1) ?_; rintro zbp zop zyp hAp
  refine cr ?_
  refine ls (op (p_ia k hAp hk1 rfl Tryd.underlying37 Tryd.sizeOf66 rfl rfl) rfl) ?_
  refine ls (o_ldj Tryd.isAgg66 Tryd.sizeOf66 rfl (by repeat' constructor) 0 rfl (by repeat (first | exact Cut.d | apply Cut.t | apply Cut.s)) rfl) ?_
  refine ls (o_alloc Tryd.zeroValue66 rfl rfl) ?_
  refine le ?_; intro b5
  refine ls (o_st rfl Tryd.sizeOf66 rfl rfl rfl rfl rfl (by repeat' constructor) (by repeat' constructor) (by repeat' constructor)) ?_
  refine ln ?_
  refine nthen ?_
  refine cs ?_
  refine cr ?_
  refine ls (op (p_move rfl) rfl) ?_
  refine ls (op (p_fa fa66_1 rfl) rfl) ?_
  refine ls (o_ld Tryd.isAgg9 rfl (by repeat' constructor) (by repeat' constructor) rfl) ?_
  refine ls (op (p_lens rfl Tryd.underlying9) rfl) ?_
  refine ls (op (p_fa fa66_2 rfl) rfl) ?_
  refine ls (o_ld Tryd.isAgg9 rfl (by repeat' constructor) (by repeat' constructor) rfl) ?_
  refine ls (op (p_lens rfl Tryd.underlying9) rfl) ?_
  refine ls (op (p_add rfl rfl (by omega)) rfl) ?_
  refine ls (op (p_fa fa66_3 rfl) rfl) ?_
  refine ls (o_ld Tryd.isAgg22 rfl (by repeat' constructor) (by repeat' constructor) rfl) ?_
  refine ls (op (p_lenl rfl Tryd.underlying22) rfl) ?_
  refine ls (op (p_add rfl rfl (by omega)) rfl) ?_
  refine ls (op (p_add rfl rfl (by omega)) rfl) ?_
  refine ls (op (p_asg rfl) rfl) ?_
  refine ln ?_
  refine nthen ?_
  refine cs ?_
  refine cr ?_
  refine ls (op (p_fa fa66_3 rfl) rfl) ?_
  refine ls (o_ld Tryd.isAgg22 rfl (by repeat' constructor) (by repeat' constructor) rfl) ?_
  refine ls (op (p_lenl rfl Tryd.underlying22) rfl) ?_
  refine ls (op (p_move rfl) rfl) ?_
  refine ln ?_
  refine nthen ?_
  refine cb ?_
  refine cl (ι := {q : Nat × Int // q.1 ≤ l[k].l.length ∧ q.2 = (n + (((l[k].name.size : Int) + l[k].to.size) + l[k].l.length)) + sizes (l[k].l.take q.1)}) (fun i => St M0 F0 w0 51 [(0, .slice A l.length c), (8, .slice A l.length c), (9, .int .i64 (l.length : Int)), (10, .int .i64 (k : Int)), (5, .pointer (some ⟨b5, 0, none⟩)), (28, .slice zyp.1 l[k].l.length zyp.2), (29, .int .i64 (l[k].l.length : Int)), (30, .int .i64 (i.1.1 : Int)), (3, .int .i64 i.1.2)] [box b5 66 (Rp.enc l[k] zyp)] [slA A l, slA zyp.1 l[k].l]) (fun i => l[k].l.length - i.1.1) ⟨(0, (n + (((l[k].name.size : Int) + l[k].to.size) + l[k].l.length))), by simp [sizes]⟩ (wk0 (by repeat (first | exact subσ.nil _ | refine subσ.cons rfl ?_)) (by repeat' (first | constructor | apply Sub.suf))) ?_
  rintro ⟨⟨j, x⟩, hj, hx⟩
  refine cmono (S' := St M0 F0 w0 51 [(0, .slice A l.length c), (8, .slice A l.length c), (9, .int .i64 (l.length : Int)), (10, .int .i64 (k : Int)), (5, .pointer (some ⟨b5, 0, none⟩)), (28, .slice zyp.1 l[k].l.length zyp.2), (29, .int .i64 (l[k].l.length : Int)), (30, .int .i64 (j : Int)), (3, .int .i64 x)] [box b5 66 (Rp.enc l[k] zyp)] [slA A l, slA zyp.1 l[k].l]) (fun _ _ h => h) ?_
  refine cs ?_
  refine cr ?_
  refine ls (op (p_icmp rfl rfl rfl) rfl) ?_
  refine ln ?_
  refine nthen ?_
  refine cs ?_
  refine cc rfl ?_ ?_
  ·
   intro h31
   dsimp only at hj hx
   try simp only [decide_eq_true_eq, decide_eq_false_iff_not, Bool.not_eq_true', Bool.not_eq_false', Int.not_lt, Int.not_le, ge_iff_le, Bool.not_true, Bool.not_false] at h31
   have hj1 : j < l[k].l.length := by omega
   have ej1 := sizes_succ hj1
   have ej2 := sizes_le l[k].l (j + 1)
   refine cskip ?_
   refine nthen ?_
   refine cs ?_
   refine cb ?_
   refine cs ?_
   refine elC (by repeat' constructor) j (List.getElem?_eq_getElem (l := l[k].l) hj1) ?_; rintro zbq zoq zyq hAq
   refine cr ?_
   refine ls (op (p_ia j hAq hj1 rfl Tryd.underlying22 Tryd.sizeOf9 rfl rfl) rfl) ?_
   refine ls (o_ldi Tryd.isAgg9 rfl (by repeat' constructor) 0 rfl (by repeat (first | exact Cut.d | apply Cut.t | apply Cut.s)) rfl) ?_
   refine ls (op (p_asg rfl) rfl) ?_
   refine ln ?_
   refine nthen ?_
   refine cr ?_
   refine ls (op (p_move rfl) rfl) ?_
   refine ls (op (p_move rfl) rfl) ?_
   refine ls (op (p_lens rfl Tryd.underlying9) rfl) ?_
   refine ls (op (p_add rfl rfl (by omega)) rfl) ?_
   refine ls (op (p_asg rfl) rfl) ?_
   refine ln ?_
   refine nblock ?_
   refine nthen ?_
   refine cr ?_
   refine ls (op (p_add rfl rfl (by omega)) rfl) ?_
   refine ls (op (p_move rfl) rfl) ?_
   refine ln ?_
   refine nnext ⟨(j + 1, x + (l[k].l[j].size : Int)), hj1, by dsimp only; omega⟩ (by dsimp only; omega) (wk0 (by repeat (first | exact subσ.nil _ | refine subσ.cons rfl ?_)) (by repeat' (first | constructor | apply Sub.suf)))
  ·
   intro h31
   dsimp only at hj hx
   try simp only [decide_eq_true_eq, decide_eq_false_iff_not, Bool.not_eq_true', Bool.not_eq_false', Int.not_lt, Int.not_le, ge_iff_le, Bool.not_true, Bool.not_false] at h31
   rw [List.take_of_length_le (by omega)] at hx
   refine cexit ?_
   refine xthen ?_
   refine xthen ?_
   refine xblock ?_
   refine nblock ?_
   refine nthen ?_
   refine cr ?_
   refine ls (op (p_add rfl rfl (by omega)) rfl) ?_
   refine ls (op (p_move rfl) rfl) ?_
   refine ln ?_
   refine nnext ⟨(k + 1, x), hk1, by dsimp only; omega⟩ (by dsimp only; omega) (wk (is := []) (by repeat (first | exact subσ.nil _ | refine subσ.cons rfl ?_)) rfl (by repeat' (first | constructor | apply Sub.suf)))
 ·
  intro h11
  dsimp only at hk hn
  try simp only [decide_eq_true_eq, decide_eq_false_iff_not, Bool.not_eq_true', Bool.not_eq_false', Int.not_lt, Int.not_le, ge_iff_le, Bool.not_true, Bool.not_false] at h11
  rw [List.take_of_length_le (by omega)] at hn
  refine cexit ?_
  refine xthen ?_
  refine xthen ?_
  refine xblock ?_
  refine nthen ?_
  refine cs ?_
  refine cs ?_
  refine cr ?_
  refine ls (op (p_move rfl) rfl) ?_
  refine ls (op (p_lenl rfl Tryd.underlying37) rfl) ?_
  refine ls (op (p_icmp rfl rfl rfl) rfl) ?_
  refine ls (op (p_move rfl) rfl) ?_
  refine andX 3 43 46 rfl (subσ.cons (t := 0) rfl (subσ.cons (t := 8) rfl (subσ.cons (t := 9) rfl (subσ.cons (t := 10) rfl (subσ.cons (t := 3) rfl (subσ.cons (t := 11) rfl (subσ.nil _))))))) ?_ ?_
  ·
   intro h43
   refine lskip rfl rfl rfl rfl rfl ?_
   refine lskip rfl rfl rfl rfl rfl ?_
   refine ls (op (p_pickf rfl rfl) rfl) ?_
   refine ln (nmid (wk0 (by repeat (first | exact subσ.nil _ | refine subσ.cons rfl ?_)) (by repeat' (first | constructor | apply Sub.suf))))
  apply exI
  ·
   intro h43
   refine lwant rfl rfl rfl rfl (op (p_move rfl) rfl) ?_
   refine lwant rfl rfl rfl rfl (op (p_icmp rfl rfl rfl) rfl) ?_
   refine ls (op (p_pickt rfl rfl) rfl) ?_
   refine ln (nmid (wk0 (by repeat (first | exact subσ.nil _ | refine subσ.cons rfl ?_)) (by repeat' (first | constructor | apply Sub.suf))))
  ·
   refine ln ?_
   refine nthen ?_
   refine cc rfl ?_ ?_
   ·
    intro h46
    refine cs ?_
    refine cr ?_
    refine ls (op (p_asg rfl) rfl) ?_
    refine ln ?_
    refine nthen ?_
    refine cret ?_
    refine xret (fun _ _ h => h) ?_
    refine rret (is := []) () (Or.inl rfl) (Res.t rfl Res.d) ?_ rfl (by repeat' (first | constructor | apply Sub.suf))
    have h47 : l.length ≤ 80 ∧ omany l ≤ 8000 := (by have h := h46; simp at h; omega); simp only [packV, fewO, if_pos h47]
   ·
    intro h46
    refine cskip ?_
    refine nthen ?_
    refine cs ?_
    refine cr ?_
    refine ls (op (p_move rfl) rfl) ?_
    refine ls (op (p_move rfl) rfl) ?_
    refine ls (op (p_lenl rfl Tryd.underlying37) rfl) ?_
    refine ls (op (p_add rfl rfl (by omega)) rfl) ?_
    refine ls (op (p_asg rfl) rfl) ?_
    refine ln ?_
    refine nthen ?_
    refine cret ?_
    refine xret (fun _ _ h => h) ?_
    refine rret (is := []) () (Or.inl rfl) (Res.t rfl Res.d) ?_ rfl (by repeat' (first | constructor | apply Sub.suf))
    have h47 : ¬ (l.length ≤ 80 ∧ omany l ≤ 8000) := (by have h := h46; simp at h; omega); simp only [packV, fewO, if_neg h47, hn]

set_option maxRecDepth 100000 in
theorem c_does02 (p b : Nat) (T : List File) (o : TOp) (y : Option Addr × Nat) (ho : o.fit) (hn : T.length + 1 ≤ 2000000) : Con Tryd.prog 32 [.pointer (some ⟨p, 0, none⟩), sv o y] [box p 75 [.map (some b)], tr b T] [slA y.1 o.l, nilA y] {q : (Nat × Nat) × (List File × Int) // q.2 = doesT T o} (fun q => .tuple #[.pointer (some ⟨q.1.1.1, 0, none⟩), .int .i64 q.1.2.2]) (fun q => [box q.1.1.1 75 [.map (some q.1.1.2)], tr q.1.1.2 q.1.2.1]) (fun _ => []) := by
 refine con Tryd.func32 rfl Tryd.ntmps32 rfl ?_
 intro M0 F0 w0
 refine cs ?_
 refine cr ?_
 refine ls (o_box rfl rfl rfl) ?_
 refine le ?_; intro b3
 refine ls (op (p_asg rfl) rfl) ?_
 refine ls (op (p_asg rfl) rfl) ?_
 refine ln ?_
 refine nthen ?_
 refine cs ?_
 refine cs ?_
 refine cr ?_
 refine ls (op (p_fa fa66_0 rfl) rfl) ?_
 refine ls (o_ld Tryd.isAgg3 rfl (by repeat' constructor) (by repeat' constructor) rfl) ?_
 refine ln ?_
 refine nthen ?_
 refine cb ?_
 refine cs ?_
 refine cr ?_
 refine ls (op (p_icmp rfl rfl rfl) rfl) ?_
 refine ls (op (p_asg rfl) rfl) ?_
 refine ln ?_
 refine nthen ?_
 refine cc rfl ?_ ?_
 ·
  intro h11
  have k0 : o.kind = 0 := by simpa using h11
  refine cs ?_
  refine cr ?_
  refine ls (op (p_move rfl) rfl) ?_
  refine ls (op (p_move rfl) rfl) ?_
  refine ls (op (p_fa fa66_1 rfl) rfl) ?_
  refine ls (o_ld Tryd.isAgg9 rfl (by repeat' constructor) (by repeat' constructor) rfl) ?_
  refine ls (o_call (is := [1, 1]) Tryd.call25 (c_tAdd p b T o.name) rfl rfl (by repeat' (first | constructor | apply Sub.suf)) rfl) ?_
  refine le ?_; rintro ⟨⟨T1, e1⟩, hq⟩
  refine ls (op (p_asg rfl) rfl) ?_
  refine ls (op (p_asg rfl) rfl) ?_
  refine ln ?_
  refine nthen ?_
  refine cret ?_
  refine xret (fun _ _ h => h) ?_
  refine rret (is := [0, 0]) ⟨((p, b), (T1, e1)), hq.trans (by simp [doesT, k0])⟩ (Or.inl rfl) (Res.t rfl (Res.t rfl Res.d)) (rfl) rfl (by repeat' (first | constructor | apply Sub.suf))
 ·
  intro h11
  have k0 : ¬ o.kind = 0 := by simpa using h11
  refine cs ?_
  refine cr ?_
  refine ls (op (p_icmp rfl rfl rfl) rfl) ?_
  refine ls (op (p_asg rfl) rfl) ?_
  refine ln ?_
  refine nthen ?_
  refine cc rfl ?_ ?_
  ·
   intro h18
   have k1 : o.kind = 1 := by simpa using h18
   refine cs ?_
   refine cr ?_
   refine ls (op (p_move rfl) rfl) ?_
   refine ls (op (p_move rfl) rfl) ?_
   refine ls (op (p_fa fa66_1 rfl) rfl) ?_
   refine ls (o_ld Tryd.isAgg9 rfl (by repeat' constructor) (by repeat' constructor) rfl) ?_
   refine ls (o_call (is := [1, 1]) Tryd.call48 (c_tRem p b T o.name) rfl rfl (by repeat' (first | constructor | apply Sub.suf)) rfl) ?_
   refine le ?_; rintro ⟨⟨T1, e1⟩, hq⟩
   refine ls (op (p_asg rfl) rfl) ?_
   refine ls (op (p_asg rfl) rfl) ?_
   refine ln ?_
   refine nthen ?_
   refine cret ?_
   refine xret (fun _ _ h => h) ?_
   refine rret (is := [0, 0]) ⟨((p, b), (T1, e1)), hq.trans (by simp [doesT, k1])⟩ (Or.inl rfl) (Res.t rfl (Res.t rfl Res.d)) (rfl) rfl (by repeat' (first | constructor | apply Sub.suf))
  ·
   intro h18
   have k1 : ¬ o.kind = 1 := by simpa using h18
   refine cs ?_
   refine cr ?_
   refine ls (op (p_icmp rfl rfl rfl) rfl) ?_
   refine ls (op (p_asg rfl) rfl) ?_
   refine ln ?_
   refine nthen ?_
   refine cc rfl ?_ ?_
   ·
    intro h25
    have k2 : o.kind = 2 := by simpa using h25
    refine cs ?_
    refine cr ?_
    refine ls (op (p_move rfl) rfl) ?_
    refine ls (op (p_move rfl) rfl) ?_
    refine ls (op (p_fa fa66_1 rfl) rfl) ?_
    refine ls (o_ld Tryd.isAgg9 rfl (by repeat' constructor) (by repeat' constructor) rfl) ?_
    refine ls (op (p_fa fa66_2 rfl) rfl) ?_
    refine ls (o_ld Tryd.isAgg9 rfl (by repeat' constructor) (by repeat' constructor) rfl) ?_
    refine ls (o_call (is := [1, 1]) Tryd.call49 (c_tMove p b T o.name o.to) rfl rfl (by repeat' (first | constructor | apply Sub.suf)) rfl) ?_
    refine le ?_; rintro ⟨⟨T1, e1⟩, hq⟩
    refine ls (op (p_asg rfl) rfl) ?_
    refine ls (op (p_asg rfl) rfl) ?_
    refine ln ?_
    refine nthen ?_
    refine cret ?_
    refine xret (fun _ _ h => h) ?_
    refine rret (is := [0, 0]) ⟨((p, b), (T1, e1)), hq.trans (by simp [doesT, k2])⟩ (Or.inl rfl) (Res.t rfl (Res.t rfl Res.d)) (rfl) rfl (by repeat' (first | constructor | apply Sub.suf))
   ·
    intro h25
    have k2 : ¬ o.kind = 2 := by simpa using h25
    refine cs ?_
    refine cr ?_
    refine ls (op (p_icmp rfl rfl rfl) rfl) ?_
    refine ls (op (p_asg rfl) rfl) ?_
    refine ln ?_
    refine nthen ?_
    refine cc rfl ?_ ?_
    ·
     intro h34
     have k3 : o.kind = 3 := by simpa using h34
     refine cs ?_
     refine cr ?_
     refine ls (op (p_move rfl) rfl) ?_
     refine ls (op (p_move rfl) rfl) ?_
     refine ls (op (p_fa fa66_1 rfl) rfl) ?_
     refine ls (o_ld Tryd.isAgg9 rfl (by repeat' constructor) (by repeat' constructor) rfl) ?_
     refine ls (op (p_fa fa66_3 rfl) rfl) ?_
     refine ls (o_ld Tryd.isAgg22 rfl (by repeat' constructor) (by repeat' constructor) rfl) ?_
     refine ls (o_call (is := [1, 1]) Tryd.call50 (c_tPut p b T o.name o.l y.1 y.2 ho.2.2.1) rfl rfl (by repeat' (first | constructor | apply Sub.suf)) rfl) ?_
     refine le ?_; rintro ⟨⟨T1, e1⟩, hq⟩
     refine ls (op (p_asg rfl) rfl) ?_
     refine ls (op (p_asg rfl) rfl) ?_
     refine ln ?_
     refine nthen ?_
     refine cret ?_
     refine xret (fun _ _ h => h) ?_
     refine rret (is := [0, 0]) ⟨((p, b), (T1, e1)), hq.trans (by simp [doesT, k3])⟩ (Or.inl rfl) (Res.t rfl (Res.t rfl Res.d)) (rfl) rfl (by repeat' (first | constructor | apply Sub.suf))
    ·
     intro h34
     have k3 : ¬ o.kind = 3 := by simpa using h34
     refine cs ?_
     refine cr ?_
     refine ls (op (p_icmp rfl rfl rfl) rfl) ?_
     refine ls (op (p_asg rfl) rfl) ?_
     refine ln ?_
     refine nthen ?_
     refine cc rfl ?_ ?_
     ·
      intro h43
      have k4 : o.kind = 4 := by simpa using h43
      refine cs ?_
      refine cr ?_
      refine ls (op (p_move rfl) rfl) ?_
      refine ls (o_call (is := [1, 1]) Tryd.call51 (c_tCopy p b T) rfl rfl (by repeat' (first | constructor | apply Sub.suf)) rfl) ?_
      refine le ?_; rintro ⟨p4, b4⟩
      refine ls (op (p_asg rfl) rfl) ?_
      refine ln ?_
      refine nthen ?_
      refine cs ?_
      refine cr ?_
      refine ls (op (p_move rfl) rfl) ?_
      refine ls (o_call (is := [2, 2]) Tryd.call25 (c_tAdd p b T ⟨#[110, 111, 110, 101]⟩) rfl rfl (by repeat' (first | constructor | apply Sub.suf)) rfl) ?_
      refine le ?_; rintro ⟨⟨T1, e1⟩, hq⟩
      have hT1 : T1.length ≤ 2000000 := by have h1 := congrArg (fun z : List File × Int => z.1.length) hq; have h2 := tAdd_len T ⟨#[110, 111, 110, 101]⟩; dsimp only at h1; omega
      refine ln ?_
      refine nthen ?_
      refine cs ?_
      refine cs ?_
      refine cr ?_
      refine ls (op (p_move rfl) rfl) ?_
      refine ls (o_call (is := [0, 0]) Tryd.call52 (c_tNames p b T1 hT1) rfl rfl (by repeat' (first | constructor | apply Sub.suf)) rfl) ?_
      refine le ?_; rintro ⟨A5, c5⟩
      refine lmono (fun a w h => Go.Sx.freeze (i := 0) rfl h) ?_
      refine ls (op (p_lenl rfl Tryd.underlying22) rfl) ?_
      refine ls (op (p_move rfl) rfl) ?_
      refine ln ?_
      refine nthen ?_
      refine cb ?_
      refine cl (ι := {q : Nat × List File // q.1 ≤ T1.length}) (fun i => St M0 F0 w0 63 [(0, .pointer (some ⟨p, 0, none⟩)), (6, .pointer (some ⟨p4, 0, none⟩)), (50, .slice A5 T1.length c5), (51, .int .i64 (T1.length : Int)), (52, .int .i64 (i.1.1 : Int))] [box p 75 [.map (some b)], tr b i.1.2, box p4 75 [.map (some b4)], tr b4 T] [slA A5 (T1.map (·.1))]) (fun i => T1.length - i.1.1) ⟨(0, T1), Nat.zero_le _⟩ (wk (is := [0, 0, 0, 0]) (by repeat (first | exact subσ.nil _ | refine subσ.cons rfl ?_)) rfl (by repeat' (first | constructor | apply Sub.suf))) ?_
      rintro ⟨⟨k, U⟩, hk⟩
      refine cmono (S' := St M0 F0 w0 63 [(0, .pointer (some ⟨p, 0, none⟩)), (6, .pointer (some ⟨p4, 0, none⟩)), (50, .slice A5 T1.length c5), (51, .int .i64 (T1.length : Int)), (52, .int .i64 (k : Int))] [box p 75 [.map (some b)], tr b U, box p4 75 [.map (some b4)], tr b4 T] [slA A5 (T1.map (·.1))]) (fun _ _ h => h) ?_
      refine cs ?_
      refine cr ?_
      refine ls (op (p_icmp rfl rfl rfl) rfl) ?_
      refine ln ?_
      refine nthen ?_
      refine cs ?_
      refine cc rfl ?_ ?_
      ·
       intro h53
       dsimp only at hk
       try simp only [decide_eq_true_eq, decide_eq_false_iff_not, Bool.not_eq_true', Bool.not_eq_false', Int.not_lt, Int.not_le, ge_iff_le, Bool.not_true, Bool.not_false] at h53
       have hk1 : k < T1.length := by omega
       have hk2 : k < (T1.map (·.1)).length := by simpa using hk1
       refine cskip ?_
       refine nthen ?_
       refine cs ?_
       refine cb ?_
       refine cs ?_
       refine elC (by repeat' constructor) k (List.getElem?_eq_getElem (l := (T1.map (·.1))) hk2) ?_; rintro zbp zop zyp hAp
       refine cr ?_
       refine ls (op (p_ia k hAp hk1 rfl Tryd.underlying22 Tryd.sizeOf9 rfl rfl) rfl) ?_
       refine ls (o_ldi Tryd.isAgg9 rfl (by repeat' constructor) 0 rfl (by repeat (first | exact Cut.d | apply Cut.t | apply Cut.s)) rfl) ?_
       refine ls (op (p_asg rfl) rfl) ?_
       refine ln ?_
       refine nthen ?_
       refine cr ?_
       refine ls (op (p_move rfl) rfl) ?_
       refine ls (op (p_move rfl) rfl) ?_
       refine ls (o_bsl [(⟨#[110, 111, 110, 101]⟩ : ByteArray)] Tryd.underlying22 Tryd.sizeOf9 Tryd.zeroValue9 rfl (Enum.t Enum.d) (RV.t () rfl Sub.d RV.d) rfl (by decide) (by decide) rfl) ?_
       refine le ?_; intro b58
       refine lmono (fun a w h => Go.Sx.freeze (i := 0) rfl h) ?_
       refine ls (o_call (is := [0, 0]) Tryd.call50 (c_tPut p b U _ [(⟨#[110, 111, 110, 101]⟩ : ByteArray)] _ _ (by simp)) rfl rfl (by repeat' (first | constructor | apply Sub.suf)) rfl) ?_
       refine le ?_; rintro ⟨⟨U2, e2⟩, hq2⟩
       refine ln ?_
       refine nblock ?_
       refine nthen ?_
       refine cr ?_
       refine ls (op (p_add rfl rfl (by omega)) rfl) ?_
       refine ls (op (p_move rfl) rfl) ?_
       refine ln ?_
       refine nnext ⟨(k + 1, U2), hk1⟩ (by dsimp only; omega) (wk (is := [0, 0, 0, 0]) (by repeat (first | exact subσ.nil _ | refine subσ.cons rfl ?_)) rfl (by repeat' (first | constructor | apply Sub.suf)))
      ·
       intro h53
       dsimp only at hk
       try simp only [decide_eq_true_eq, decide_eq_false_iff_not, Bool.not_eq_true', Bool.not_eq_false', Int.not_lt, Int.not_le, ge_iff_le, Bool.not_true, Bool.not_false] at h53
       refine cexit ?_
       refine xthen ?_
       refine xthen ?_
       refine xblock ?_
       refine nthen ?_
       refine cs ?_
       refine cr ?_
       refine ls (op (p_move rfl) rfl) ?_
       refine ls (op (p_asg rfl) rfl) ?_
       refine ls (op (p_asg rfl) rfl) ?_
       refine ln ?_
       refine nthen ?_
       refine cret ?_
       refine xret (fun _ _ h => h) ?_
       refine rret (is := [2, 2]) ⟨((p4, b4), (T, 0)), by simp [doesT, k4]⟩ (Or.inl rfl) (Res.t rfl (Res.t rfl Res.d)) (rfl) rfl (by repeat' (first | constructor | apply Sub.suf))
     ·
      intro h43
      have k4 : ¬ o.kind = 4 := by simpa using h43
      refine cskip ?_
      refine nblock ?_
      refine nthen ?_
      refine cs ?_
      refine cr ?_
      refine ls (op (p_move rfl) rfl) ?_
      refine ls (op (p_asg rfl) rfl) ?_
      refine ls (op (p_asg rfl) rfl) ?_
      refine ln ?_
      refine nthen ?_
      refine cret ?_
      refine xret (fun _ _ h => h) ?_
      refine rret (is := [1, 1]) ⟨((p, b), (T, 0)), by simp [doesT, k0, k1, k2, k3]⟩ (Or.inl rfl) (Res.t rfl (Res.t rfl Res.d)) (rfl) rfl (by repeat' (first | constructor | apply Sub.suf))

set_option maxRecDepth 100000 in
theorem c_Made02 (l : List TOp) (A : Option Addr) (c : Nat) (hl : l.length ≤ 1048576) (hM : ∀ o ∈ l, o.many ≤ 2000000) : Con Tryd.prog 16 [.slice A l.length c] [] [slA A l] ((Nat × Nat) × (Option Addr × Nat)) (fun q => .tuple #[.pointer (some ⟨q.1.1, 0, none⟩), .slice q.2.1 (madeT l).length q.2.2]) (fun q => [box q.1.1 75 [.map (some q.1.2)], tr q.1.2 (madeT l)]) (fun q => [slA q.2.1 (madeT l)]) := by
 refine con Tryd.func16 rfl Tryd.ntmps16 rfl ?_
 intro M0 F0 w0
 refine cs ?_
 refine cr ?_
 refine ls (op (p_asg rfl) rfl) ?_
 refine ls (op (p_asg rfl) rfl) ?_
 refine ln ?_
 refine nthen ?_
 refine cs ?_
 refine cr ?_
 refine ls (o_call (is := []) Tryd.call24 (c_tNew) rfl rfl (by repeat' (first | constructor | apply Sub.suf)) rfl) ?_
 refine le ?_; rintro ⟨p0, b0⟩
 refine ls (op (p_asg rfl) rfl) ?_
 refine ln ?_
 refine nthen ?_
 refine cs ?_
 refine cr ?_
 refine ls (op (p_asg rfl) rfl) ?_
 refine ln ?_
 refine nthen ?_
 refine cs ?_
 refine cs ?_
 refine cmono (fun a w h => nilSl (α := File) h) ?_
 refine cr ?_
 refine ls (op (p_move rfl) rfl) ?_
 refine ls (op (p_lenl rfl Tryd.underlying37) rfl) ?_
 refine ls (op (p_move rfl) rfl) ?_
 refine ln ?_
 refine nthen ?_
 refine cb ?_
 refine cl (ι := {q : Nat × (Nat × Nat) × (Option Addr × Nat) // q.1 ≤ l.length}) (fun i => St M0 F0 w0 41 [(13, .slice A l.length c), (14, .int .i64 (l.length : Int)), (15, .int .i64 (i.1.1 : Int)), (4, .pointer (some ⟨i.1.2.1.1, 0, none⟩)), (5, .slice i.1.2.2.1 (madeT (l.take i.1.1)).length i.1.2.2.2)] [box i.1.2.1.1 75 [.map (some i.1.2.1.2)], tr i.1.2.1.2 (madeT (l.take i.1.1))] [slA A l, slA i.1.2.2.1 (madeT (l.take i.1.1))]) (fun i => l.length - i.1.1) ⟨(0, (p0, b0), (none, 0)), Nat.zero_le _⟩ (wk (is := [0, 0]) (by repeat (first | exact subσ.nil _ | refine subσ.cons rfl ?_)) rfl (by repeat' (first | constructor | apply Sub.suf))) ?_
 rintro ⟨⟨k, ⟨p, b⟩, ⟨A1, c1⟩⟩, hk⟩
 refine cmono (S' := St M0 F0 w0 41 [(13, .slice A l.length c), (14, .int .i64 (l.length : Int)), (15, .int .i64 (k : Int)), (4, .pointer (some ⟨p, 0, none⟩)), (5, .slice A1 (madeT (l.take k)).length c1)] [box p 75 [.map (some b)], tr b (madeT (l.take k))] [slA A l, slA A1 (madeT (l.take k))]) (fun _ _ h => h) ?_
 refine cs ?_
 refine cr ?_
 refine ls (op (p_icmp rfl rfl rfl) rfl) ?_
 refine ln ?_
 refine nthen ?_
 refine cs ?_
 refine cc rfl ?_ ?_
 ·
  intro h16
  dsimp only at hk
  try simp only [decide_eq_true_eq, decide_eq_false_iff_not, Bool.not_eq_true', Bool.not_eq_false', Int.not_lt, Int.not_le, ge_iff_le, Bool.not_true, Bool.not_false] at h16
  have hk1 : k < l.length := by omega
  have hok : l[k].many ≤ 2000000 := hM _ (List.getElem_mem hk1)
  have htk : (l.take k).length = k := by rw [List.length_take]; omega
  have hso := madeT_sor (l.take k)
  have htok : Tok (l.take k).length 2000000 (madeT (l.take k)) := madeT_tok fun o ho => hM o (List.mem_of_mem_take ho)
  have hlen := htok.len
  have hms := madeT_succ hk1
  refine cskip ?_
  refine nthen ?_
  refine cs ?_
  refine cb ?_
  refine cs ?_
  refine elC (by repeat' constructor) k (List.getElem?_eq_getElem (l := l) hk1) ?_; rintro zbp zop zyp hAp
  refine cr ?_
  refine ls (op (p_ia k hAp hk1 rfl Tryd.underlying37 Tryd.sizeOf66 rfl rfl) rfl) ?_
  refine ls (o_ldj Tryd.isAgg66 Tryd.sizeOf66 rfl (by repeat' constructor) 0 rfl (by repeat (first | exact Cut.d | apply Cut.t | apply Cut.s)) rfl) ?_
  refine ls (o_alloc Tryd.zeroValue66 rfl rfl) ?_
  refine le ?_; intro b7
  refine ls (o_st rfl Tryd.sizeOf66 rfl rfl rfl rfl rfl (by repeat' constructor) (by repeat' constructor) (by repeat' constructor)) ?_
  refine ln ?_
  refine nthen ?_
  refine cs ?_
  refine cs ?_
  refine cr ?_
  refine ls (op (p_move rfl) rfl) ?_
  refine ls (op (p_ptrnil Tryd.underlying39 rfl rfl) rfl) ?_
  refine ln ?_
  refine nthen ?_
  refine cc rfl (fun h => by cases h) (fun h => ?_)
  refine cskip ?_
  refine nthen ?_
  refine cs ?_
  refine cr ?_
  refine ls (op (p_move rfl) rfl) ?_
  refine ls (o_ldw Tryd.isAgg66 Tryd.sizeOf66 rfl (by repeat' constructor) (by rfl) rfl) ?_
  refine ls (o_call (is := []) Tryd.call31 (c_rDo (madeT (l.take k)) A1 c1 (by omega) l[k] zyp (TOp.fit_of hok) (fun u => (htok.get u).1)) rfl rfl (by repeat' (first | constructor | apply Sub.suf)) rfl) ?_
  refine le ?_; rintro ⟨⟨⟨S1, e1⟩, ⟨A2, c2⟩⟩, hq⟩
  refine ls (op (p_move rfl) rfl) ?_
  refine ls (op (p_ext rfl (by repeat' constructor)) rfl) ?_
  refine ls (op (p_ext rfl (by repeat' constructor)) rfl) ?_
  refine ls (op (p_asg rfl) rfl) ?_
  refine ls (op (p_asg rfl) rfl) ?_
  refine ln ?_
  refine nthen ?_
  refine cs ?_
  refine cr ?_
  refine ls (op (p_move rfl) rfl) ?_
  refine ls (op (p_asg rfl) rfl) ?_
  refine ln ?_
  refine nthen ?_
  refine cs ?_
  refine cr ?_
  refine ls (op (p_move rfl) rfl) ?_
  refine ls (o_ldw Tryd.isAgg66 Tryd.sizeOf66 rfl (by repeat' constructor) (by rfl) rfl) ?_
  refine ls (o_call (is := [1, 1]) Tryd.call32 (c_does02 p b (madeT (l.take k)) l[k] zyp (TOp.fit_of hok) (by omega)) rfl rfl (by repeat' (first | constructor | apply Sub.suf)) rfl) ?_
  refine le ?_; rintro ⟨⟨⟨p2, b2⟩, ⟨T2, e2⟩⟩, hd⟩
  dsimp only at hq hd
  rw [does_eq hso] at hd
  obtain ⟨rfl, rfl⟩ := Prod.mk.inj (hd.trans hq.symm)
  refine ls (op (p_move rfl) rfl) ?_
  refine ls (op (p_ext rfl (by repeat' constructor)) rfl) ?_
  refine ls (op (p_ext rfl (by repeat' constructor)) rfl) ?_
  refine ls (op (p_asg rfl) rfl) ?_
  refine ls (op (p_asg rfl) rfl) ?_
  refine ln ?_
  refine nthen ?_
  refine cs ?_
  refine cr ?_
  refine ls (op (p_move rfl) rfl) ?_
  refine ls (op (p_asg rfl) rfl) ?_
  refine ln ?_
  refine nthen ?_
  refine cs ?_
  refine cr ?_
  refine ls (op (p_move rfl) rfl) ?_
  refine ls (op (p_move rfl) rfl) ?_
  refine ls (op (p_icmp rfl rfl rfl) rfl) ?_
  refine ln ?_
  refine nthen ?_
  refine cc rfl ?_ ?_
  ·
   intro h37
   simp at h37
  ·
   intro h37
   skip
   refine cskip ?_
   refine nblock ?_
   refine nthen ?_
   refine cr ?_
   refine ls (op (p_add rfl rfl (by omega)) rfl) ?_
   refine ls (op (p_move rfl) rfl) ?_
   refine ln ?_
   have hT2 : T2 = madeT (l.take (k + 1)) := by rw [hms, ← hd]
   subst hT2
   refine nnext ⟨(k + 1, (p2, b2), (A2, c2)), hk1⟩ (by dsimp only; omega) (wk (is := [0, 0]) (by repeat (first | exact subσ.nil _ | refine subσ.cons rfl ?_)) rfl (by repeat' (first | constructor | apply Sub.suf)))
 ·
  intro h16
  dsimp only at hk
  try simp only [decide_eq_true_eq, decide_eq_false_iff_not, Bool.not_eq_true', Bool.not_eq_false', Int.not_lt, Int.not_le, ge_iff_le, Bool.not_true, Bool.not_false] at h16
  rw [List.take_of_length_le (by omega)]
  refine cexit ?_
  refine xthen ?_
  refine xthen ?_
  refine xblock ?_
  refine nthen ?_
  refine cs ?_
  refine cr ?_
  refine ls (op (p_move rfl) rfl) ?_
  refine ls (op (p_move rfl) rfl) ?_
  refine ls (op (p_asg rfl) rfl) ?_
  refine ls (op (p_asg rfl) rfl) ?_
  refine ln ?_
  refine nthen ?_
  refine cret ?_
  refine xret (fun _ _ h => h) ?_
  refine rret (is := [0, 0]) ((p, b), (A1, c1)) (Or.inl rfl) (Res.t rfl (Res.t rfl Res.d)) (rfl) rfl (by repeat' (first | constructor | apply Sub.suf))

end Go.Proofs.YtdbiillompeclaaDoor.X

end
section
set_option linter.unusedVariables false
set_option linter.unusedSimpArgs false
namespace Go.Sx
open Go Go.RowKit
section
variable {ro : Option Nat} {P : Program} {M0 F0 : Nat → Prop} {w0 : World} {n : Nm} {σ : List (Nat × Value)} {Ξ Ξ1 : List Xsn} {Γ Γ1 : List Asn} {d : Nat} {ty : TypeId} {pos : String} {af : Array Edge}
variable {ops : Array Oper} {Q : Exit → Act → World → Prop} {S S' : Act → World → Prop}
/-! bundles -/
theorem Hp.unbunO {Fs : List (Nat → Prop)} {w : World} (h : Hp M0 F0 w0 (Sx.bun Ξ1 Γ1 :: Ξ) Γ Fs w) : ∃ Fs', Hp M0 F0 w0 (Ξ1 ++ Ξ) (Γ1 ++ Γ) Fs' w ∧ ∀ b, own Fs' b ↔ own Fs b := by
  obtain ⟨F, Fs2, rfl⟩ : ∃ F Fs2, Fs = F :: Fs2 := by
    cases Fs with
    | nil => exact h.ex.elim
    | cons F Fs2 => exact ⟨F, Fs2, rfl⟩
  obtain ⟨⟨Gs, h1, h2, h3, h4⟩, h5⟩ := h.ex
  have hpw := List.pairwise_cons.1 h.dis
  have ho : ∀ b, own (Gs ++ Fs2) b ↔ own (F :: Fs2) b := fun b => by rw [own_append, own_cons, h1 b]
  refine ⟨Gs ++ Fs2, h.re ho (List.pairwise_append.2 ⟨h2, hpw.2, fun G hG H hH b hg hh => hpw.1 H hH b ((h1 b).2 ⟨G, hG, hg⟩) hh⟩) (h3.append h5) fun p hp => ?_, ho⟩
  rcases List.mem_append.1 hp with hp | hp
  · exact h4 p hp
  · exact h.ga p hp
theorem Hp.toHead {is : List Nat} {xs Ξ' : List Xsn} {Γi : List Asn} {Fs : List (Nat → Prop)} {w : World} (h : Hp M0 F0 w0 Ξ Γ Fs w) (hs : takeAll is Ξ = some (xs, Ξ')) (hg : ∀ p ∈ Γi, p ∈ Γ) : ∃ Fs', Hp M0 F0 w0 (xs ++ Ξ') (Γi ++ Γ) Fs' w := by
  obtain ⟨Gs, Hs, hp, hin, hr⟩ := h.select hs hg
  exact ⟨_, h.back hp hr hin⟩
theorem stBun {is : List Nat} {Ξ' : List Xsn} {a : Act} {w : World} (hs : takeAll is Ξ = some (Ξ1, Ξ')) (hg : Sub Γ1 Γ) (h : St M0 F0 w0 n σ Ξ Γ a w) : St M0 F0 w0 n σ (bun Ξ1 Γ1 :: Ξ') Γ a w := by
  obtain ⟨hsl, Fs, hh⟩ := h
  obtain ⟨Fs1, h1⟩ := hh.toHead hs hg.mem
  obtain ⟨Fs2, h2, _⟩ := h1.bun (Γ1 := Γ1) (fun p hp => List.mem_append_left _ hp)
  exact ⟨hsl, Fs2, h2.less fun p hp => List.mem_append_right _ hp⟩
theorem stUnbun {i : Nat} {Ξ' : List Xsn} {a : Act} {w : World} (hs : takeAll [i] Ξ = some ([bun Ξ1 Γ1], Ξ')) (h : St M0 F0 w0 n σ Ξ Γ a w) : St M0 F0 w0 n σ (Ξ1 ++ Ξ') (Γ1 ++ Γ) a w := by
  obtain ⟨hsl, Fs, hh⟩ := h
  obtain ⟨Fs1, h1⟩ := hh.toHead (Γi := []) hs (fun p hp => by cases hp)
  obtain ⟨Fs2, h2, _⟩ := Hp.unbunO h1
  exact ⟨hsl, Fs2, h2⟩
theorem stPerm {is : List Nat} {xs Ξ' : List Xsn} {a : Act} {w : World} (hs : takeAll is Ξ = some (xs, Ξ')) (h : St M0 F0 w0 n σ Ξ Γ a w) : St M0 F0 w0 n σ (xs ++ Ξ') Γ a w := by
  obtain ⟨hsl, Fs, hh⟩ := h
  obtain ⟨Fs1, h1⟩ := hh.toHead (Γi := []) hs (fun p hp => by cases hp)
  exact ⟨hsl, Fs1, h1⟩
theorem St.nil {y : Option Addr × Nat} {i : Nat} (hi : At (nilA y) i Γ) : ∀ a w, St M0 F0 w0 n σ Ξ Γ a w → (y.1 = none → y.2 = 0) := fun a w h => by
  obtain ⟨hs, Fs, hh⟩ := h
  exact hh.ga _ (List.mem_of_getElem? hi.get)
theorem con_bun {f : FuncId} {vs : List Value} {Ξ0 : List Xsn} {Γi : List Asn} {X : Type} {rv : X → Value} {Ξ1' Ξo : X → List Xsn} {Γo : X → List Asn} (h : Con P f vs (Ξ1 ++ Ξ0) Γi X rv (fun x => Ξ1' x ++ Ξo x) Γo) :
    Con P f vs (bun Ξ1 [] :: Ξ0) Γi X rv (fun x => bun (Ξ1' x) [] :: Ξo x) Γo := by
  intro M0 Fs w hh
  obtain ⟨Fs1, h1, ho⟩ := Hp.unbunO hh
  refine (h M0 Fs1 w (h1.own0 (Gs' := Fs1) ho)).mono ?_
  rintro e w' ⟨x, Fs2, rfl, h2⟩
  obtain ⟨Fs3, h3, _⟩ := h2.bun (Γ1 := []) (fun p hp => by cases hp)
  exact ⟨x, Fs3, rfl, h3.own0 (fun b => (ho b).symm)⟩
/-! rows that become shorter -/
theorem RowE.take {α : Type} [Rp α] {M : Nat → Prop} {w : World} {l : List α} {xs : List Value} (h : RowE M w l xs) (k : Nat) (hk : k ≤ l.length) : RowE M w (l.take k) (xs.take (k * Rp.size α)) := by
  obtain ⟨x1, x2, e, h1, h2⟩ := h.split (l.take k) (l.drop k) (List.take_append_drop k l).symm
  have hl := h1.length
  rw [List.length_take, Nat.min_eq_left hk] at hl
  rw [e, ← hl, List.take_left' rfl]
  exact h1
theorem rowTk {α : Type} [Rp α] {e : TypeId} {A : Option Addr} {c i : Nat} {l : List α} {Ξ' : List Xsn} {a : Act} {w : World} (k : Nat) (hk : k ≤ l.length) (hi : At (row e A c l) i Ξ) (hs : SetAt (row e A c (l.take k)) i Ξ Ξ') (h : St M0 F0 w0 n σ Ξ Γ a w) : St M0 F0 w0 n σ Ξ' Γ a w := by
  obtain ⟨hsl, Fs, hh⟩ := h
  obtain ⟨rfl, _⟩ := hs.eq
  refine ⟨hsl, Fs, hh.swapX hi.get fun F hF hp => ?_⟩
  obtain ⟨xs, ho, hFb, hr⟩ := hp
  have hlen : (l.take k).length = k := by rw [List.length_take, Nat.min_eq_left hk]
  have hr2 := hr.take k hk
  refine ⟨xs.take (k * Rp.size α), ⟨by rw [hr2.length], ?_⟩, fun x => by rw [hFb x]; cases A <;> rfl, hr2⟩
  rcases ho.2 with ⟨h0, h1⟩ | ⟨g, cap, cur, hv, hb, hg, hle, hmax, hcs, hxs⟩
  · left
    obtain rfl : l = [] := List.length_eq_zero_iff.1 h1
    simp only [List.take_nil]
    exact ⟨h0, rfl⟩
  · right
    cases hv
    refine ⟨g, c, cur, rfl, hb, hg, by omega, hmax, hcs, ?_⟩
    rw [hlen, ← hxs, List.take_take, Nat.min_eq_left (Nat.mul_le_mul_right _ hk)]
theorem slh_val {A : Option Addr} {k c z : Nat} : Value.slice (if c = 0 then A else A.map (·.add (0 * z))) (k - 0) (c - 0) = .slice A k c := by
  have : (if c = 0 then A else A.map (·.add (0 * z))) = A := by
    split
    · rfl
    · cases A with
      | none => rfl
      | some a => simp [Addr.add]
  rw [this]; rfl
theorem o_clr {x : Operand} {t e : TypeId} {A : Option Addr} {c i lo : Nat} {l : List ByteArray} {N : Nat} {Ξ' : List Xsn} (hN : l.length = N) (ht : P.underlying t = some (.slice e)) (hz : ∀ w, (zeroValue e).run P w = .ok (.string ⟨#[]⟩) w)
    (hx : ev σ x = some (.slice (if c = lo then A else A.map (·.add (lo * 1))) (N - lo) (c - lo))) (hlo : lo ≤ l.length) (hi : At (row (α := ByteArray) e A c l) i Ξ) (hs' : SetAt (row (α := ByteArray) e A c (l.take lo ++ List.replicate (N - lo) ⟨#[]⟩)) i Ξ Ξ') :
    OpR P ⟨none, .call ⟨.builtin .clear, #[x], #[t]⟩, ty, pos, af, none⟩ (St M0 F0 w0 n σ Ξ Γ) (St M0 F0 w0 n σ Ξ' Γ) := by
  subst hN
  refine OpR.of_run rfl fun a w ⟨hsl, Fs, hh⟩ => ?_
  obtain ⟨rfl, _⟩ := hs'.eq
  obtain ⟨F, hF, xs, ho, hFb, hr⟩ := hh.ex.at hi.get
  rcases Nat.lt_or_ge lo l.length with hlt | hge
  · rcases ho.2 with ⟨h0, h1⟩ | ⟨g, cap, cur, hv, hb, hg, hle, hmax, hcs, hxs⟩
    · omega
    · cases hv
      rw [if_neg (by omega)] at hx
      have hsz : Rp.size ByteArray = 1 := rfl
      rw [hsz, Nat.mul_one] at hcs hxs
      have hone : ∀ v ∈ List.replicate (l.length - lo) (Value.string ⟨#[]⟩), v.oneCell' = true := fun v hv => by rw [List.eq_of_mem_replicate hv]; rfl
      have hst := run_storeCells_at P g lo e (List.replicate (l.length - lo) (Value.string ⟨#[]⟩)) 0 cur w hg (by rw [List.length_replicate]; omega) hone
      rw [Nat.add_zero, List.length_replicate] at hst
      have hzc : (Builtin.zeroCells (Value.string ⟨#[]⟩).cells (l.length - lo)).toList = List.replicate (l.length - lo) (Value.string ⟨#[]⟩) := by
        show (Builtin.zeroCells #[Value.string ⟨#[]⟩] (l.length - lo)).toList = _
        simp only [Builtin.zeroCells]
        apply List.ext_getElem
        · simp
        · intro i h1 h2
          simp [Nat.mod_one]
      obtain ⟨m, hm⟩ : ∃ m, l.length - lo = m + 1 := ⟨l.length - lo - 1, by omega⟩
      have hrun : (Builtin.clear_ #[t] ty #[.slice (some ⟨g, lo, none⟩) (l.length - lo) (c - lo)]).run P w = .ok (.tuple #[]) (w.setRow g (cur.toList.take lo ++ List.replicate (l.length - lo) (Value.string ⟨#[]⟩) ++ cur.toList.drop (lo + (l.length - lo))).toArray) := by
        rw [hm] at hst hzc ⊢
        simp [Builtin.clear_, run_underlying ht, hz, hzc, hst]
      have hx2 : ev σ x = some (.slice (some ⟨g, lo, none⟩) (l.length - lo) (c - lo)) := by
        rw [hx]; simp [Addr.add]
        try omega
      refine ⟨.tuple #[], _, by simp [execOp, resolve, invoke, builtin, hsl.ev hx2, hrun, Result.andThen], hsl, Fs, hh.set hF (w' := w.setRow g (cur.toList.take lo ++ List.replicate (l.length - lo) (Value.string ⟨#[]⟩) ++ cur.toList.drop (lo + (l.length - lo))).toArray) ⟨rfl, rfl, rfl, by simp, fun b _ hn => setRow_other w g b _ (fun e' => hn ((hFb b).2 (by rw [e']; rfl)))⟩ ?_⟩
      have hxl : xs = l.map (fun b => Value.string b) := rowE_strs hr
      have hlen : (l.take lo ++ List.replicate (l.length - lo) (⟨#[]⟩ : ByteArray)).length = l.length := by simp; omega
      refine ⟨(l.take lo ++ List.replicate (l.length - lo) (⟨#[]⟩ : ByteArray)).map (fun b => Value.string b), ⟨by rw [List.length_map, hlen, hsz, Nat.mul_one], .inr ⟨g, c, (cur.toList.take lo ++ List.replicate (l.length - lo) (Value.string ⟨#[]⟩) ++ cur.toList.drop (lo + (l.length - lo))).toArray, by rw [hlen], hb, setRow_heap w g _ _ e _ hg, by rw [hlen]; exact hle, hmax, ?_, ?_⟩⟩, fun b => by rw [hlen]; exact hFb b, strs_rowE _⟩
      · have hcl : cur.toList.length = cur.size := by simp
        simp [hsz]; omega
      · rw [hlen, hsz, Nat.mul_one]
        have hcl : cur.toList.length = cur.size := by simp
        have h1 := take_put (l := cur.toList) (vs := List.replicate (l.length - lo) (Value.string ⟨#[]⟩)) (a := lo) (N := l.length) (by rw [List.length_replicate]; omega) (by rw [hcl, hcs]; exact hle)
        rw [List.length_replicate] at h1
        rw [List.toList_toArray, h1, hxs, hxl, List.map_append, List.map_replicate, List.map_take, show lo + (l.length - lo) = (l.map fun b => Value.string b).length by simp; omega, List.drop_length, List.append_nil]
  · have hm : l.length - lo = 0 := by omega
    have hl : l.take lo ++ List.replicate (l.length - lo) (⟨#[]⟩ : ByteArray) = l := by rw [hm, List.take_of_length_le hge]; simp
    rw [hl]
    have hset : Ξ.set i (row (α := ByteArray) e A c l) = Ξ := by
      refine List.ext_getElem? fun j => ?_
      rw [List.getElem?_set]
      split
      · rename_i e1; subst e1; rw [hi.get]
      · rfl
    rw [hset]
    rw [hm] at hx
    refine ⟨.tuple #[], w, ?_, hsl, Fs, hh⟩
    generalize (if c = lo then A else A.map (·.add (lo * 1))) = A2 at hx
    cases A2 <;> simp [execOp, resolve, invoke, builtin, hsl.ev hx, Builtin.clear_, run_underlying ht, Result.andThen]
end
end Go.Sx

end
section
set_option linter.unusedVariables false
set_option linter.unusedSimpArgs false
namespace Go.Proofs.YtdbiillompeclaaDoor.X
open Go Go.RowKit Go.Proofs Go.Sx
/-! What makes one tree of another one. -/
noncomputable def linesT (nm : ByteArray) (a b : List ByteArray) : List Prim := if longB a b = true then [] else linAll nm a b (commF a b)
theorem linesT_long {nm : ByteArray} {a b : List ByteArray} (h : longB a b = true) : linesT nm a b = [] := by unfold linesT; rw [if_pos h]
theorem linesT_not {nm : ByteArray} {a b : List ByteArray} (h : longB a b = false) : linesT nm a b = linAll nm a b (commF a b) := by unfold linesT; rw [if_neg (by rw [h]; simp)]
theorem linF_len (nm : ByteArray) (a b : List ByteArray) (l : List (Nat × Nat)) : (linF nm a b l).1.length ≤ l.length := by
  have key : ∀ (l : List (Nat × Nat)) (s : List Prim × (Nat × Nat)), (l.foldl (linS nm a b) s).1.length ≤ s.1.length + l.length := by
    intro l
    induction l with
    | nil => intro s; simp
    | cons q l ih =>
      intro s
      have h1 := ih (linS nm a b s q)
      have h2 : (linS nm a b s q).1.length ≤ s.1.length + 1 := by
        unfold linS hk; dsimp only; split <;> simp
      simp only [List.foldl_cons, List.length_cons]; omega
  have := key l ([], (0, 0))
  simpa [linF] using this
theorem linesT_len (nm : ByteArray) (a b : List ByteArray) : (linesT nm a b).length ≤ 201 := by
  cases h : longB a b with
  | true => rw [linesT_long h]; simp
  | false =>
    rw [linesT_not h]
    have h1 := longB_no h
    have h2 := linF_len nm a b (commF a b ++ [(a.length, b.length)])
    have h3 := (commF_spec a b).len
    have h4 := lcs_lenl a b
    unfold linAll
    simp only [List.length_append, List.length_singleton] at h2
    omega
theorem Chain.mono {a b : List ByteArray} {l : List (Nat × Nat)} {i k : Nat} (h : Chain a b l i k) : ∀ (j : Nat) (hj : j < l.length), (linF e0 a b (l.take j)).2.1 ≤ l[j].1 ∧ (linF e0 a b (l.take j)).2.2 ≤ l[j].2 ∧ l[j].1 < a.length ∧ l[j].2 < b.length := by
  induction h with
  | nil => intro j hj; simp at hj
  | @snoc l i k x y h0 hp hn ih =>
    intro j hj
    rcases Nat.lt_or_ge j l.length with h | h
    · have := ih j h
      rw [List.take_append_of_le_length (by omega)]
      simpa [List.getElem_append_left h] using this
    · have hjl : j = l.length := by simp at hj; omega
      subst hjl
      rw [List.take_append_of_le_length (Nat.le_refl _), List.take_length, h0.lin]
      have c := hn.1
      simp
      exact ⟨c.ix, c.ky, c.xl, c.yl⟩
theorem linF_snd (nm nm' : ByteArray) (a b : List ByteArray) (l : List (Nat × Nat)) : (linF nm a b l).2 = (linF nm' a b l).2 := by
  have key : ∀ (l : List (Nat × Nat)) (s s' : List Prim × (Nat × Nat)), s.2 = s'.2 → (l.foldl (linS nm a b) s).2 = (l.foldl (linS nm' a b) s').2 := by
    intro l
    induction l with
    | nil => intro s s' h; exact h
    | cons q l ih => intro s s' h; exact ih _ _ rfl
  exact key l _ _ rfl
theorem Comm.step {nm : ByteArray} {a b : List ByteArray} {l : List (Nat × Nat)} (h : Comm a b l) (j : Nat) (hj : j < (l ++ [(a.length, b.length)]).length) :
    (linF nm a b ((l ++ [(a.length, b.length)]).take j)).2.1 ≤ (l ++ [(a.length, b.length)])[j].1 ∧ (linF nm a b ((l ++ [(a.length, b.length)]).take j)).2.2 ≤ (l ++ [(a.length, b.length)])[j].2 ∧ (l ++ [(a.length, b.length)])[j].1 ≤ a.length ∧ (l ++ [(a.length, b.length)])[j].2 ≤ b.length := by
  obtain ⟨i, k, h1, h2⟩ := h
  rw [linF_snd nm e0]
  rcases Nat.lt_or_ge j l.length with h | h
  · have := h1.mono j h
    rw [List.take_append_of_le_length (by omega), List.getElem_append_left h]
    omega
  · have hjl : j = l.length := by simp at hj; omega
    subst hjl
    rw [List.take_append_of_le_length (Nat.le_refl _), List.take_length, h1.lin]
    have := h1.le
    simp
    omega
def filesT (T U : List File) (both : Bool) : List ByteArray := (T.map (·.1)).filter fun s => !(!(hasT U s == both))
def wideB (T : List File) : Bool := (T.map (·.1)).any fun s => longB (getL T s) []
def pRm (s : ByteArray) : Prim := ⟨2, s, e0, 0, [], []⟩
def pAd (s : ByteArray) : Prim := ⟨1, s, e0, 0, [], []⟩
noncomputable def goneT (T : List File) (s : ByteArray) : List Prim := linesT s (getL T s) [] ++ [pRm s]
noncomputable def comeT (U : List File) (s : ByteArray) : List Prim := [pAd s] ++ linesT s [] (getL U s)
noncomputable def bothT (T U : List File) (s : ByteArray) : List Prim := linesT s (getL T s) (getL U s)
noncomputable def treesT (T U : List File) : List Prim := if (wideB T || wideB U) = true then [] else (filesT T U false).flatMap (goneT T) ++ (filesT U T false).flatMap (comeT U) ++ (filesT T U true).flatMap (bothT T U)
theorem treesT_yes {T U : List File} (h : (wideB T || wideB U) = true) : treesT T U = [] := by unfold treesT; rw [if_pos h]
theorem treesT_no {T U : List File} (h : (wideB T || wideB U) = false) : treesT T U = (filesT T U false).flatMap (goneT T) ++ (filesT U T false).flatMap (comeT U) ++ (filesT T U true).flatMap (bothT T U) := by unfold treesT; rw [if_neg (by rw [h]; simp)]
theorem cost_take {l : List Prim} {k : Nat} (h : k < l.length) : costL (l.take (k + 1)) = costL (l.take k) + (l[k].old.length + l[k].new.length) := by
  rw [List.take_succ_eq_append_getElem h, costL_app]; simp [costL, lnP]
theorem cost_le (l : List Prim) (k : Nat) : costL (l.take k) ≤ costL l := by
  conv => rhs; rw [← List.take_append_drop k l, costL_app]
  omega
theorem cost_in {l : List Prim} {k : Nat} (h : k < l.length) : costL (l.take k) + (l[k].old.length + l[k].new.length) ≤ costL l := by
  rw [← cost_take h]; exact cost_le l _
theorem fm_take {α : Type} {f : α → List Prim} {l : List α} {k : Nat} (hk : k < l.length) : (l.take (k + 1)).flatMap f = (l.take k).flatMap f ++ f l[k] := by
  rw [List.take_succ_eq_append_getElem hk, List.flatMap_append]; simp
theorem fm_len {α : Type} {f : α → List Prim} {m : Nat} (h : ∀ x, (f x).length ≤ m) : ∀ (l : List α), (l.flatMap f).length ≤ l.length * m
  | [] => by simp
  | x :: l => by
    have := fm_len h l
    have := h x
    simp only [List.flatMap_cons, List.length_append, List.length_cons, Nat.succ_mul]
    omega
theorem goneT_len (T : List File) (s : ByteArray) : (goneT T s).length ≤ 202 := by unfold goneT; have := linesT_len s (getL T s) []; simp; omega
theorem comeT_len (U : List File) (s : ByteArray) : (comeT U s).length ≤ 202 := by unfold comeT; have := linesT_len s [] (getL U s); simp; omega
theorem bothT_len (T U : List File) (s : ByteArray) : (bothT T U s).length ≤ 202 := by unfold bothT; have := linesT_len s (getL T s) (getL U s); omega
theorem filesT_len (T U : List File) (b : Bool) : (filesT T U b).length ≤ T.length := by unfold filesT; have := List.length_filter_le (fun s => !(!(hasT U s == b))) (T.map (·.1)); simpa using this
theorem wide_get {T : List File} (hT : Sor T) (h : wideB T = false) (s : ByteArray) : (getL T s).length ≤ 200 := by
  unfold wideB at h
  unfold getL
  cases hg : getT T s with
  | none => simp
  | some l =>
    have hm := (getT_some hT).1 hg
    have h2 : ∀ x ∈ T, ¬ longB (getL T x.1) [] = true := by
      intro x hx
      have := List.any_eq_false.1 h x.1 (List.mem_map_of_mem hx)
      exact this
    have h3 := h2 (s, l) hm
    have : longB (getL T s) [] = false := by simpa using h3
    have := (longB_no this).1
    unfold getL at this
    rw [hg] at this
    exact this
theorem longB_nilr {l : List ByteArray} (h : l.length ≤ 200) : longB l [] = false := by unfold longB; simp; omega
theorem longB_nill {l : List ByteArray} (h : l.length ≤ 200) : longB [] l = false := by unfold longB; simp; omega
theorem longB_two {l m : List ByteArray} (h : l.length ≤ 200) (k : m.length ≤ 200) : longB l m = false := by unfold longB; simp; omega
/-! one after the other, deleted -/
structure DelI (l : List ByteArray) (f : ByteArray → Bool) (i j : Nat) (l' : List ByteArray) : Prop where
  len : l'.length = l.length
  ij : i < j
  jl : j ≤ l.length
  tk : l'.take i = (l.take j).filter fun s => !f s
  dr : ∀ q, j ≤ q → l'[q]? = l[q]?
theorem DelI.start {l : List ByteArray} {f : ByteArray → Bool} {k : Nat} (hk : k < l.length) (h1 : (l.take k).any f = false) (h2 : f l[k] = true) : DelI l f k (k + 1) l := by
  refine ⟨rfl, by omega, hk, ?_, fun _ _ => rfl⟩
  rw [List.take_succ_eq_append_getElem hk, List.filter_append, List.filter_eq_self.2 fun x hx => ?_]
  · simp [h2]
  · have := List.any_eq_false.1 h1 x hx
    simpa using this
theorem DelI.keep {l l' : List ByteArray} {f : ByteArray → Bool} {i j : Nat} (h : DelI l f i j l') (hj : j < l.length) (hf : f l[j] = false) : DelI l f (i + 1) (j + 1) (l'.set i l[j]) := by
  have h0 := h.ij
  have hi : i < l'.length := by have := h.len; omega
  refine ⟨by rw [List.length_set]; exact h.len, by omega, hj, ?_, fun q hq => ?_⟩
  · rw [List.take_succ_eq_append_getElem (by rw [List.length_set]; exact hi), List.getElem_set_self, List.take_set_of_le (Nat.le_refl _), h.tk, List.take_succ_eq_append_getElem hj, List.filter_append]
    simp [hf]
  · rw [List.getElem?_set_ne (by omega)]; exact h.dr q (by omega)
theorem DelI.skip {l l' : List ByteArray} {f : ByteArray → Bool} {i j : Nat} (h : DelI l f i j l') (hj : j < l.length) (hf : f l[j] = true) : DelI l f i (j + 1) l' := by
  have h0 := h.ij
  refine ⟨h.len, by omega, hj, ?_, fun q hq => h.dr q (by omega)⟩
  rw [h.tk, List.take_succ_eq_append_getElem hj, List.filter_append]
  simp [hf]
theorem DelI.get {l l' : List ByteArray} {f : ByteArray → Bool} {i j : Nat} (h : DelI l f i j l') (hj : j < l.length) : l'[j]? = some l[j] := by
  rw [h.dr j (Nat.le_refl _), List.getElem?_eq_getElem hj]
theorem DelI.done {l l' : List ByteArray} {f : ByteArray → Bool} {i j : Nat} (h : DelI l f i j l') (hj : ¬ j < l.length) (r : List ByteArray) : (l'.take i ++ r).take i = l.filter (fun s => !f s) ∧ i = (l.filter fun s => !f s).length := by
  have h0 := h.ij; have h1 := h.jl; have h2 := h.len
  obtain rfl : j = l.length := by omega
  have h3 := h.tk
  rw [List.take_length] at h3
  have h4 : (l'.take i).length = i := by rw [List.length_take]; omega
  refine ⟨by rw [List.take_left' h4, h3], ?_⟩
  rw [← h3, h4]
theorem filter_none {l : List ByteArray} {f : ByteArray → Bool} (h : l.any f = false) : l = l.filter fun s => !f s := by
  refine (List.filter_eq_self.2 fun x hx => ?_).symm
  have := List.any_eq_false.1 h x hx
  simpa using this
end Go.Proofs.YtdbiillompeclaaDoor.X

end
section
set_option linter.unusedVariables false
set_option linter.unusedSimpArgs false
namespace Go.Sx
open Go Go.RowKit
section
variable {ro : Option Nat} {P : Program} {M0 F0 : Nat → Prop} {w0 : World} {n : Nm} {σ : List (Nat × Value)} {Ξ : List Xsn} {Γ : List Asn} {d : Nat} {ty : TypeId} {pos : String} {af : Array Edge}
theorem o_ldrS {x : Operand} {t e : TypeId} {g c : Nat} {l : List ByteArray} {i j : Nat} {z : ByteArray} (hag : ∀ w, (isAgg t).run P w = .ok false w) (hx : ev σ x = some (.pointer (some ⟨g, 0 + j * Rp.size ByteArray, none⟩)))
    (hi : At (row e (some ⟨g, 0, none⟩) c l) i Ξ) (hj : l[j]? = some z) (hd : Nat.blt d n.n = true) :
    OpR P ⟨some d, .load t x, ty, pos, af, none⟩ (St M0 F0 w0 n σ Ξ Γ) (St M0 F0 w0 n ((d, .string z) :: σ) Ξ Γ) := by
  refine OpR.of_run rfl fun a w ⟨hs, Fs, hh⟩ => ?_
  obtain ⟨y, h1, h2⟩ := rowAt hi hj hh
  exact ⟨.string z, w, p_ld hag hx a hs w h1, hs.put hd, Fs, hh⟩
end
def ownT (M : List File) (l : List ByteArray) (k : Nat) : List File := (M.take k).map (fun x => (x.1, l)) ++ M.drop k
theorem ownT_keys (M : List File) (l : List ByteArray) (k : Nat) : (ownT M l k).map (·.1) = M.map (·.1) := by
  unfold ownT
  rw [List.map_append, List.map_map]
  have : ((fun x : File => x.1) ∘ fun x : File => (x.1, l)) = fun x : File => x.1 := rfl
  rw [this, ← List.map_append, List.take_append_drop]
theorem sor_keys {T U : List File} (h : T.map (·.1) = U.map (·.1)) (hT : Sor T) : Sor U := by
  have h1 : (T.map (·.1)).Pairwise kl := by rw [List.pairwise_map]; exact hT
  rw [h, List.pairwise_map] at h1
  exact h1
theorem ownT_sor {M : List File} (h : Sor M) (l : List ByteArray) (k : Nat) : Sor (ownT M l k) := sor_keys (ownT_keys M l k).symm h
theorem ownT_len (M : List File) (l : List ByteArray) (k : Nat) : (ownT M l k).length = M.length := by
  have := congrArg List.length (ownT_keys M l k)
  simpa using this
theorem ownT_has {M : List File} {l : List ByteArray} {k j : Nat} (hj : j < M.length) : hasT (ownT M l k) M[j].1 = true := by
  have h1 : M[j].1 ∈ (ownT M l k).map (·.1) := by rw [ownT_keys]; exact List.mem_map.2 ⟨M[j], List.getElem_mem hj, rfl⟩
  obtain ⟨x, hx, e⟩ := List.mem_map.1 h1
  exact hasT_iff.2 ⟨x, hx, e⟩
theorem ownT_put {M : List File} (h : Sor M) {l : List ByteArray} {k : Nat} (hk : k < M.length) : putT (ownT M l k) M[k].1 l = ownT M l (k + 1) := by
  refine sor_ext ((ownT_sor h l k).put _ _) (ownT_sor h l (k + 1)) fun x => ?_
  rw [mem_putT]
  have e1 : M.drop k = M[k] :: M.drop (k + 1) := List.drop_eq_getElem_cons hk
  have e2 : M.take (k + 1) = M.take k ++ [M[k]] := List.take_succ_eq_append_getElem hk
  have hp : M = M.take k ++ M[k] :: M.drop (k + 1) := by rw [← e1, List.take_append_drop]
  have hs := h
  rw [hp] at hs
  have hpw := List.pairwise_append.1 hs
  have hA : ∀ y ∈ M.take k, y.1 ≠ M[k].1 := fun y hy => kl_ne (hpw.2.2 y hy M[k] List.mem_cons_self)
  have hD : ∀ y ∈ M.drop (k + 1), y.1 ≠ M[k].1 := fun y hy e => kl_ne ((List.pairwise_cons.1 hpw.2.1).1 y hy) e.symm
  unfold ownT
  rw [e1, e2, List.map_append]
  simp only [List.mem_append, List.mem_cons, List.mem_map, List.map_cons, List.map_nil, List.not_mem_nil, or_false]
  constructor
  · rintro (rfl | ⟨h1 | rfl | h1, h2⟩)
    · exact .inl (.inr rfl)
    · exact .inl (.inl h1)
    · exact absurd rfl h2
    · exact .inr h1
  · rintro ((⟨y, hy, rfl⟩ | rfl) | h1)
    · exact .inr ⟨.inl ⟨y, hy, rfl⟩, hA y hy⟩
    · exact .inl rfl
    · exact .inr ⟨.inr (.inr h1), hD x h1⟩
theorem ownT_fit {M : List File} {l : List ByteArray} {k m : Nat} (h : ∀ x ∈ M, x.2.length ≤ m) (hl : l.length ≤ m) : ∀ x ∈ ownT M l k, x.2.length ≤ m := fun x hx => by
  rcases List.mem_append.1 hx with hx | hx
  · obtain ⟨y, _, rfl⟩ := List.mem_map.1 hx; exact hl
  · exact h x (List.mem_of_mem_drop hx)
theorem own_put {M : List File} (h : Sor M) {l : List ByteArray} {k : Nat} (hk : k < M.length) (hl : l.all lineOk = true) : tPut (ownT M l k) M[k].1 l = (ownT M l (k + 1), 0) := by
  unfold tPut
  rw [if_neg (by rw [ownT_has hk]; simp), if_neg (by rw [hl]; simp), ownT_put h hk]
theorem own_get {M : List File} (h : Sor M) {l : List ByteArray} {k : Nat} (hk : k < M.length) : getL (ownT M l (k + 1)) M[k].1 = l ∧ hasT (ownT M l (k + 1)) M[k].1 = true := by
  rw [← ownT_put h hk, getL, hasT, getT_put (ownT_sor h l k), if_pos rfl]
  exact ⟨rfl, rfl⟩
end Go.Sx

end
section
set_option linter.unusedVariables false
set_option linter.unusedSimpArgs false
namespace Go.Sx
open Go Go.RowKit

/-! Texts that are built of pieces. -/
instance instRpByte : Rp UInt8 where
  Lay := Unit
  size := 1
  enc x _ := [.int .u8 (x.toNat : Int)]
  len _ _ := rfl
  one _ _ v hv := by
    simp only [List.mem_cons, List.mem_nil_iff, or_false] at hv
    subst hv; rfl
  asn _ _ := []
theorem rowE_bytes {M : Nat → Prop} {w : World} : ∀ {l : List UInt8} {xs : List Value}, RowE M w l xs → xs = Lib.byteCells l
  | _, _, .nil => rfl
  | _, _, .snoc y h _ => by
    rw [rowE_bytes h]; simp [Rp.enc, Lib.byteCells]
theorem bytes_rowE {M : Nat → Prop} {w : World} (l : List UInt8) : RowE M w l (Lib.byteCells l) := by
  have : ∀ (r : List UInt8), RowE M w r.reverse (Lib.byteCells r.reverse) := by
    intro r
    induction r with
    | nil => exact .nil
    | cons x r ih =>
      simp only [List.reverse_cons, Lib.byteCells, List.map_append, List.map_cons, List.map_nil]
      exact .snoc () ih (fun p hp => by cases hp)
  simpa using this l.reverse
theorem strCells_ofB (s : ByteArray) : Lib.strCells s = Lib.byteCells (ofB s) := rfl
theorem ofB_length (s : ByteArray) : (ofB s).length = s.size := Array.length_toList
section
variable {ro : Option Nat} {P : Program} {M0 F0 : Nat → Prop} {w0 : World} {n : Nm} {σ : List (Nat × Value)} {Ξ : List Xsn} {Γ : List Asn} {d : Nat} {ty : TypeId} {pos : String} {af : Array Edge}
variable {ops : Array Oper} {Q : Exit → Act → World → Prop} {S S' : Act → World → Prop}
theorem p_cat {T : World → Prop} {x y : Operand} {t t' : TypeId} {s u : ByteArray} (hx : ev σ x = some (.string s)) (hy : ev σ y = some (.string u)) (hb : s.size + u.size ≤ 9223372036854775807) : Pu P n σ T ⟨some d, .binOp .add t x y t', ty, pos, af, none⟩ (.string (s ++ u)) :=
  fun a hs w _ => by
    have h1 : ¬ ((s.size + u.size : Nat) : Int) > IntKind.i64.max := by
      have : IntKind.i64.max = 9223372036854775807 := rfl
      omega
    simp only [execOp, hs.ev hx, hs.ev hy, eqGuard_add, binOp, Op.stringOp, Sem.run_bind, Sem.run_pure, Result.andThen_ok]
    rw [if_neg h1]
    rfl
theorem loc_appS {t u e ty' : TypeId} (ht : P.underlying t = some (.slice e)) (hu : P.underlying u = some .string) (hinfo : (P.info? e).map (fun i => (i.zero, i.size, i.bytes)) = some (some (.int .u8 0), 1, 1))
    (A : Option Addr) (c : Nat) (l : List UInt8) (s : ByteArray) (hl : l.length + s.size ≤ 140737488355328) :
    Loc P (fun w => (Builtin.append_ #[t, u] ty' #[.slice A l.length c, .string s]).run P w) [row e A c l] [] {y : Option Addr × Nat // (l ++ ofB s = [] → A = none → y.1 = none)} (fun y => .slice y.1.1 (l ++ ofB s).length y.1.2) (fun y => [row e y.1.1 y.1.2 (l ++ ofB s)]) (fun _ => []) := by
  obtain ⟨i0, hi, hz0, hz1, hz2⟩ := info_parts hinfo
  intro M0 Fs w hh
  obtain ⟨F, rfl, xs, ho, hF, hr⟩ := hh.one_of
  have hxs := rowE_bytes hr
  subst hxs
  obtain ⟨v', w', h1, h2, h3, h5⟩ := Lib.run_append_own_string (P := P) w 0 t u ty' e i0 ht hu hi hz0 hz1 hz2 _ l.length _ ho s (by simp only [maxLen]; omega) hl (Nat.zero_le _)
  have hlen : (l ++ ofB s).length = l.length + s.size := by rw [List.length_append, ofB_length]
  obtain ⟨A', c2, rfl⟩ : ∃ A' c2, v' = .slice A' (l.length + s.size) c2 := by
    rcases h2.2 with ⟨rfl, h0⟩ | ⟨g, cap, cur, rfl, _⟩
    · exact ⟨none, 0, by rw [h0]⟩
    · exact ⟨_, cap, rfl⟩
  have h4 : (Value.slice A' (l.length + s.size) c2).ownBlock = (Value.slice A l.length c).ownBlock ∨ (Value.slice A' (l.length + s.size) c2).ownBlock = some w.heap.size := by
    rcases ho.2 with ⟨hv, hl0⟩ | ⟨g, cap, cur, hv, hbg, hg, hnc, hcm, hcs, htake⟩
    · rw [hv] at h1 h5 ⊢
      by_cases hm : s.size = 0
      · have := h5.2 ⟨rfl, hm⟩
        rw [this]; exact .inl rfl
      · have hr' := run_append_nil_string (P := P) w t u ty' e i0 (.int .u8 0) ht hu hi hz0 s (by omega) (by omega) (by rw [hz2]; omega)
        rw [h1] at hr'
        injection hr' with hr' _
        rw [hr']; exact .inr rfl
    · rw [hv] at h1 ⊢
      by_cases hroom : l.length + s.size ≤ cap
      · have hcs' : cur.size = cap := by have h1 : Rp.size UInt8 = 1 := rfl; rw [h1] at hcs; simpa using hcs
        have hr' := Lib.run_append_room_string (P := P) w t u ty' e i0 ht hu hi hz1 g l.length cap cur hg s hroom (by omega)
        rw [h1] at hr'
        injection hr' with hr' _
        rw [hr']; exact .inl rfl
      · have holds : ∀ j u, (Lib.byteCells l)[j]? = some u → w.cell? ((⟨g, 0, none⟩ : Addr).add j) = some u := ho.cells (g := g) (by rw [hv]; rfl)
        have hxl : (Lib.byteCells l).length = l.length := Lib.byteCells_length l
        have hr' := Lib.run_append_grow_string (P := P) w t u ty' e i0 (.int .u8 0) ht hu hi hz0 ⟨g, 0, none⟩ l.length cap (Lib.byteCells l) (by rw [hz1]; simpa using hxl) holds s (by omega) (by omega) (by rw [hz2]; exact growslice_fits (by omega) (by omega))
        rw [h1] at hr'
        injection hr' with hr' _
        rw [hr']; exact .inr rfl
  have hown : ∀ b, own [F] b ↔ F b := fun b => by simp [own]
  have hup : Upd F w w' := ⟨h3.os, h3.tape, h3.output, h3.size, fun b hb hn => h3.block b hb (fun e' => hn ((hF b).2 e'.symm))⟩
  have hF' : ∀ b, (Value.slice A' (l.length + s.size) c2).ownBlock = some b → F b ∨ w.heap.size ≤ b := by
    intro b hb
    rcases h4 with h | h
    · rw [h] at hb; exact .inl ((hF b).2 hb)
    · rw [h] at hb; cases hb; exact .inr (Nat.le_refl _)
  have hlt' : ∀ b, (Value.slice A' (l.length + s.size) c2).ownBlock = some b → b < w'.heap.size := by
    intro b hb
    rcases h2.2 with ⟨h, _⟩ | ⟨g, cap, cur, h, _, hg, _⟩
    · rw [h] at hb; simp [Value.ownBlock] at hb
    · rw [h] at hb; simp [Value.ownBlock] at hb; subst hb; exact (Array.getElem?_eq_some_iff.1 hg).1
  have hnil : l ++ ofB s = [] → A = none → A' = none := by
    intro e1 e2
    have hl1 := congrArg List.length e1
    rw [hlen, List.length_nil] at hl1
    have hl0 : l.length = 0 := by omega
    have hs0 : s.size = 0 := by omega
    have hc0 : c = 0 := by
      rcases ho.2 with ⟨hv, _⟩ | ⟨g, cap, cur, hv, _⟩
      · injection hv
      · rw [e2] at hv; injection hv with hv; cases hv
    have := h5.2 ⟨by rw [e2, hl0, hc0], hs0⟩
    injection this
  refine ⟨⟨(A', c2), hnil⟩, [fun b => (Value.slice A' (l.length + s.size) c2).ownBlock = some b], w', ?_, hh.one hup hF' hlt' ⟨Lib.byteCells l ++ Lib.strCells s, ?_, ?_, ?_⟩⟩
  · show (Builtin.append_ #[t, u] ty' #[.slice A l.length c, .string s]).run P w = _
    rw [h1, hlen]
  · rw [hlen]; exact h2
  · intro x; rw [hlen]
  · rw [strCells_ofB, show Lib.byteCells l ++ Lib.byteCells (ofB s) = Lib.byteCells (l ++ ofB s) by simp [Lib.byteCells]]
    exact bytes_rowE _
theorem o_appS {x y : Operand} {t u e : TypeId} {A : Option Addr} {c : Nat} {l : List UInt8} {s : ByteArray} {i : Nat} {Ξ' : List Xsn} (ht : P.underlying t = some (.slice e)) (hu : P.underlying u = some .string) (hinfo : (P.info? e).map (fun i => (i.zero, i.size, i.bytes)) = some (some (.int .u8 0), 1, 1))
    (hx : ev σ x = some (.slice A l.length c)) (hy : ev σ y = some (.string s)) (hl : l.length + s.size ≤ 140737488355328) (hs : takeAll [i] Ξ = some ([row e A c l], Ξ')) (hd : Nat.blt d n.n = true) :
    OpR P ⟨some d, .call ⟨.builtin .append, #[x, y], #[t, u]⟩, ty, pos, af, none⟩ (St M0 F0 w0 n σ Ξ Γ) (fun a w => ∃ q : {y : Option Addr × Nat // (l ++ ofB s = [] → A = none → y.1 = none)}, St M0 F0 w0 n ((d, .slice q.1.1 (l ++ ofB s).length q.1.2) :: σ) (row e q.1.1 q.1.2 (l ++ ofB s) :: Ξ') Γ a w) := by
  refine (o_loc (Γi := []) (loc_appS (P := P) (ty' := ty) ht hu hinfo A c l s hl) ?_ hs .d hd).mono fun a w h => h
  intro a hsl w v w' hr
  have h1 := hsl.ev hx
  have h2 := hsl.ev hy
  have hm : (#[x, y] : Array Operand).map a.eval = #[.slice A l.length c, .string s] := by simp [h1, h2]
  simp only [execOp, resolve, invoke, builtin, hm]
  simp [hr]
theorem loc_ustr {pt it ty' e : TypeId} (hp : P.underlying pt = some (.pointer e)) (hc : P.cellsOf e = 1) (g c : Nat) (l : List UInt8) (h0 : l ≠ []) (hl : l.length ≤ 140737488355328) :
    Loc P (fun w => (Builtin.unsafeString_ #[pt, it] ty' #[.pointer (some ⟨g, 0, none⟩), .int .i64 l.length]).run P w) [row e (some ⟨g, 0, none⟩) c l] [] Unit (fun _ => .string (toB l)) (fun _ => []) (fun _ => []) := by
  intro M0 Fs w hh
  obtain ⟨F, rfl, xs, ho, hF, hr⟩ := hh.one_of
  have hxs := rowE_bytes hr
  subst hxs
  rcases ho.2 with ⟨hv, _⟩ | ⟨g', cap, cur, hv, hbg, hg, hnc, hcm, hcs, htake⟩
  · injection hv with hv; cases hv
  · injection hv with hv _ _
    injection hv with hv
    injection hv with hv _ _
    subst hv
    have hcs' : cur.size = cap := by
      have h1 : Rp.size UInt8 = 1 := rfl
      rw [h1] at hcs; simpa using hcs
    have hrun := Lib.run_unsafeString_row w pt it ty' e hp hc g cur.size (by simp [World.shape?, hg]) l h0 (by omega) (by omega) (fun j x hx => ho.cells (g := g) rfl j (.int .u8 x.toNat) (by simp [Lib.byteCells, hx]))
    have hl0 : l.length ≠ 0 := by simpa using h0
    have hfr : ∀ k, k ≠ g → (w.freeze ⟨g, 0, none⟩ l.length).heap[k]? = w.heap[k]? := fun k hk => by
      unfold World.freeze
      rw [if_neg hl0]
      simp only [Array.getElem?_modify]
      rw [if_neg (fun e => hk e.symm)]
    have hsz : (w.freeze ⟨g, 0, none⟩ l.length).heap.size = w.heap.size := by
      unfold World.freeze
      rw [if_neg hl0]; simp
    have hos : (w.freeze ⟨g, 0, none⟩ l.length).os = w.os ∧ (w.freeze ⟨g, 0, none⟩ l.length).tape = w.tape ∧ (w.freeze ⟨g, 0, none⟩ l.length).output = w.output := by
      unfold World.freeze
      rw [if_neg hl0]; exact ⟨rfl, rfl, rfl⟩
    refine ⟨(), [], w.freeze ⟨g, 0, none⟩ l.length, hrun, trivial, .nil, fun b hb => absurd hb (own_nil b), fun b hb => absurd hb (own_nil b), fun b hb => absurd hb (own_nil b), (fun p hp => by cases hp), ⟨hos.1, hos.2.1, hos.2.2, Nat.le_of_eq hsz.symm, fun k _ hk => hfr k fun e => hk ?_⟩, hh.m0, hh.f0⟩
    subst e
    exact ⟨F, by simp, (hF k).2 rfl⟩
end
end Go.Sx

end
section
set_option linter.unusedVariables false
set_option linter.unusedSimpArgs false
namespace Go.Sx
open Go Go.RowKit
section
variable {ro : Option Nat} {P : Program} {M0 F0 : Nat → Prop} {w0 : World} {n : Nm} {σ : List (Nat × Value)} {Ξ : List Xsn} {Γ : List Asn} {d : Nat} {ty : TypeId} {pos : String} {af : Array Edge}
variable {ops : Array Oper} {Q : Exit → Act → World → Prop} {S S' : Act → World → Prop}
theorem p_ptrnil0 {T : World → Prop} {x y : Operand} {t e t' : TypeId} (ht : P.underlying t = some (.pointer e)) (hx : ev σ x = some (.pointer none)) (hy : ev σ y = some (.pointer none)) :
    Pu P n σ T ⟨some d, .binOp .eql t x y t', ty, pos, af, none⟩ (.bool true) := fun b hs w _ => by
  have h1 : ∀ k : Nat, (Op.equalIn (k + 1) t (.pointer none) (.pointer none)).run P w = .ok true w := fun k => by
    simp [Op.equalIn, run_underlying ht]
  have h2 : (Op.equal t (.pointer none) (.pointer none)).run P w = .ok true w := h1 9999
  simp [execOp, hs.ev hx, hs.ev hy, eqGuard_at_pointer, binOp, h2]
theorem p_ptrneS {T : World → Prop} {x y : Operand} {t e t' : TypeId} {j : TypeInfo} {a : Addr} (ht : P.underlying t = some (.pointer e)) (he : P.info? e = some j) (hx : ev σ x = some (.pointer (some a))) (hy : ev σ y = some (.pointer (some a))) :
    Pu P n σ T ⟨some d, .binOp .neq t x y t', ty, pos, af, none⟩ (.bool false) := fun b hs w _ => by
  simp [execOp, hs.ev hx, hs.ev hy, eqGuard_at_pointer, Lib.run_neq_ptr_same w a ht he]
theorem o_tou {x : Operand} {src dst t bt : TypeId} {j : TypeInfo} {i b : Nat} {cs : List Value} (hs : P.underlying src = some (.pointer t)) (hdt : P.underlying dst = some .unsafePointer) (ht : P.info? t = some j) (hj : j.size ≠ 0)
    (hx : ev σ x = some (.pointer (some ⟨b, 0, none⟩))) (hi : At (box b bt cs) i Ξ) (hl : 0 < cs.length) (hd : Nat.blt d n.n = true) :
    OpR P ⟨some d, .convert src dst x, ty, pos, af, none⟩ (St M0 F0 w0 n σ Ξ Γ) (St M0 F0 w0 n ((d, .pointer (some ⟨b, 0, none⟩)) :: σ) Ξ Γ) :=
  OpR.of_run rfl fun a w ⟨hsl, Fs, hh⟩ => by
    have hb := hh.cell hi.get
    have := Lib.run_to_unsafe (P := P) w (src := src) (dst := dst) (e := bt) (cells := cs.length) ⟨b, 0, none⟩ hs hdt ht hj (by simp [World.shape?, hb]) hl
    exact ⟨_, w, by simp [execOp, hsl.ev hx, this], hsl.put hd, Fs, hh⟩
theorem o_fromu {x : Operand} {src dst u bt : TypeId} {j : TypeInfo} {i b : Nat} {cs : List Value} (hs : P.underlying src = some .unsafePointer) (hdt : P.underlying dst = some (.pointer u)) (hu : P.info? u = some j)
    (hx : ev σ x = some (.pointer (some ⟨b, 0, none⟩))) (hi : At (box b bt cs) i Ξ) (hl : liesAt P P.depth bt (cs.length / P.cellsOf bt) 0 u 1 = true) (hd : Nat.blt d n.n = true) :
    OpR P ⟨some d, .convert src dst x, ty, pos, af, none⟩ (St M0 F0 w0 n σ Ξ Γ) (St M0 F0 w0 n ((d, .pointer (some ⟨b, 0, none⟩)) :: σ) Ξ Γ) :=
  OpR.of_run rfl fun a w ⟨hsl, Fs, hh⟩ => by
    have hb := hh.cell hi.get
    have := Lib.run_from_unsafe (P := P) w (src := src) (dst := dst) (e := bt) (cells := cs.length) ⟨b, 0, none⟩ hs hdt hu (by simp [World.shape?, hb]) hl
    exact ⟨_, w, by simp [execOp, hsl.ev hx, this], hsl.put hd, Fs, hh⟩
theorem p_noesc {T : World → Prop} {x : Operand} {f : FuncId} {fn : Func} {tys : Array TypeId} {v : Value} (hf : P.funcs[f]? = some fn) (hname : (fn.name == "runtime.NumGoroutine") = false)
    (hbd : fn.body.isNone = true) (hn : Extern.findNext fn = none) (he : Extern.find fn = some Extern.AbiNoEscape.same) (hx : ev σ x = some v) : Pu P n σ T ⟨some d, .call ⟨.value (.func f), #[x], tys⟩, ty, pos, af, none⟩ v :=
  fun a hs w _ => by
    have e2 := run_callFunc_extern hf hname hbd hn he #[v] w
    rw [Lib.run_noEscape] at e2
    simp only [Result.andThen] at e2
    simp only [execOp, resolve, Deferred.ofValue, Act.eval, invoke]
    simp [hs.ev hx, e2]
theorem p_usd {T : World → Prop} {x : Operand} {t : TypeId} {A : Addr} {l c : Nat} (hc : c ≠ 0) (hx : ev σ x = some (.slice (some A) l c)) : Pu P n σ T ⟨some d, .call ⟨.builtin .unsafeSliceData, #[x], #[t]⟩, ty, pos, af, none⟩ (.pointer (some A)) :=
  fun a hs w _ => by simp [execOp, resolve, invoke, builtin, hs.ev hx, Lib.run_unsafeSliceData_row w #[t] ty A l c hc]
theorem p_usdn {T : World → Prop} {x : Operand} {t : TypeId} {l c : Nat} (hx : ev σ x = some (.slice none l c)) : Pu P n σ T ⟨some d, .call ⟨.builtin .unsafeSliceData, #[x], #[t]⟩, ty, pos, af, none⟩ (.pointer none) :=
  fun a hs w _ => by simp [execOp, resolve, invoke, builtin, hs.ev hx, Lib.run_unsafeSliceData_nil w #[t] ty l c]
theorem p_usn {T : World → Prop} {x y : Operand} {t u : TypeId} {p : Option Addr} (hx : ev σ x = some (.pointer p)) (hy : ev σ y = some (.int .i64 0)) : Pu P n σ T ⟨some d, .call ⟨.builtin .unsafeString, #[x, y], #[t, u]⟩, ty, pos, af, none⟩ (.string .empty) :=
  fun a hs w _ => by simp [execOp, resolve, invoke, builtin, hs.ev hx, hs.ev hy, Lib.run_unsafeString_none w t u ty p]
theorem o_ustr {x y : Operand} {pt it e : TypeId} {g c i : Nat} {l : List UInt8} {Ξ' : List Xsn} (hp : P.underlying pt = some (.pointer e)) (hc : P.cellsOf e = 1) (h0 : l ≠ []) (hl : l.length ≤ 140737488355328)
    (hx : ev σ x = some (.pointer (some ⟨g, 0, none⟩))) (hy : ev σ y = some (.int .i64 (l.length : Int))) (hs : takeAll [i] Ξ = some ([row e (some ⟨g, 0, none⟩) c l], Ξ')) (hd : Nat.blt d n.n = true) :
    OpR P ⟨some d, .call ⟨.builtin .unsafeString, #[x, y], #[pt, it]⟩, ty, pos, af, none⟩ (St M0 F0 w0 n σ Ξ Γ) (St M0 F0 w0 n ((d, .string (toB l)) :: σ) Ξ' Γ) :=
  (o_loc (Γi := []) (loc_ustr (P := P) (ty' := ty) (it := it) hp hc g c l h0 hl) (fun a hsl w v w' hr => by
    have h1 := hsl.ev hx
    have h2 := hsl.ev hy
    have hm : (#[x, y] : Array Operand).map a.eval = #[.pointer (some ⟨g, 0, none⟩), .int .i64 l.length] := by simp [h1, h2]
    simp only [execOp, resolve, invoke, builtin, hm]
    simp [hr]) hs .d hd).mono fun a w ⟨_, h⟩ => h
theorem St.rowcap {α : Type} [Rp α] {e : TypeId} {A : Option Addr} {c : Nat} {l : List α} {i : Nat} (hi : At (row e A c l) i Ξ) : ∀ a w, St M0 F0 w0 n σ Ξ Γ a w → l.length ≤ c := by
  rintro a w ⟨hs, Fs, hh⟩
  obtain ⟨F, hF, xs, ho, _, _⟩ := hh.ex.at hi.get
  rcases ho.2 with ⟨hv, h0⟩ | ⟨g, cap, cur, hv, _, _, h2, _⟩
  · omega
  · injection hv with _ _ h; omega
end
/-! what a tree's text is -/
def lineT (l : List ByteArray) : List UInt8 := l.flatMap fun s => ofB s ++ [10]
def fileT (x : File) : List UInt8 := ofB x.1 ++ [32] ++ Lib.decDigits x.2.length ++ [10] ++ lineT x.2
def textT (T : List File) : List UInt8 := T.flatMap fileT
theorem ofB_append (a b : ByteArray) : ofB (a ++ b) = ofB a ++ ofB b := by
  unfold ofB
  rw [ByteArray.data_append, Array.toList_append]
theorem ofB_toB (l : List UInt8) : ofB (toB l) = l := rfl
theorem flat_succ {α : Type} (f : α → List UInt8) {l : List α} {k : Nat} (h : k < l.length) : (l.take (k + 1)).flatMap f = (l.take k).flatMap f ++ f l[k] := by
  rw [List.take_succ_eq_append_getElem h, List.flatMap_append]; simp
theorem flat_le {α : Type} (f : α → List UInt8) (l : List α) (k : Nat) : ((l.take k).flatMap f).length ≤ (l.flatMap f).length := by
  have e : l.flatMap f = (l.take k).flatMap f ++ (l.drop k).flatMap f := by rw [← List.flatMap_append, List.take_append_drop]
  rw [e, List.length_append]; omega
end Go.Sx

end
section
set_option linter.unusedVariables false
set_option linter.unusedSimpArgs false
namespace Go.Proofs.YtdbiillompeclaaDoor.X
open Go Go.RowKit Go.Proofs Go.Sx
attribute [local irreducible] slA isA box row

theorem inf51 : (Tryd.prog.info? 51).map (fun i => (i.zero, i.size, i.bytes)) = some (some (.agg #[.int .i64 0, .string ⟨#[]⟩, .string ⟨#[]⟩, .int .i64 0, .slice none 0 0, .slice none 0 0]), 6, 96) := by kernel_rfl
set_option maxRecDepth 100000 in
theorem c_dCost (l : List Prim) (A : Option Addr) (c : Nat) (hl : l.length ≤ 1000000) (hc : costL l ≤ 1000000000000) : Con Tryd.prog 13 [.slice A l.length c] [] [slA A l] Unit (fun _ => .int .i64 ((costL l : Nat) : Int)) (fun _ => []) (fun _ => []) := by
 refine con Tryd.func13 rfl Tryd.ntmps13 rfl ?_
 intro M0 F0 w0
 refine cs ?_
 refine cr ?_
 refine ls (op (p_asg rfl) rfl) ?_
 refine ln ?_
 refine nthen ?_
 refine cs ?_
 refine cr ?_
 refine ls (op (p_asg rfl) rfl) ?_
 refine ln ?_
 refine nthen ?_
 refine cs ?_
 refine cs ?_
 refine cr ?_
 refine ls (op (p_move rfl) rfl) ?_
 refine ls (op (p_lenl rfl Tryd.underlying34) rfl) ?_
 refine ls (op (p_move rfl) rfl) ?_
 refine ln ?_
 refine nthen ?_
 refine cb ?_
 refine cl (ι := {q : Nat × Int // q.1 ≤ l.length ∧ q.2 = ((costL (l.take q.1) : Nat) : Int)}) (fun i => St M0 F0 w0 23 [(3, .int .i64 i.1.2), (6, .slice A l.length c), (7, .int .i64 (l.length : Int)), (8, .int .i64 ((i.1.1 : Nat) : Int))] [] [slA A l]) (fun i => l.length - i.1.1) ⟨(0, 0), Nat.zero_le _, rfl⟩ (wk0 (by repeat (first | exact subσ.nil _ | refine subσ.cons rfl ?_)) (by repeat' (first | constructor | apply Sub.suf))) ?_
 rintro ⟨⟨k, n⟩, hk, hn⟩
 refine cmono (S' := St M0 F0 w0 23 [(3, .int .i64 n), (6, .slice A l.length c), (7, .int .i64 (l.length : Int)), (8, .int .i64 ((k : Nat) : Int))] [] [slA A l]) (fun _ _ h => h) ?_
 refine cs ?_
 refine cr ?_
 refine ls (op (p_icmp rfl rfl rfl) rfl) ?_
 refine ln ?_
 refine nthen ?_
 refine cs ?_
 refine cc rfl ?_ ?_
 ·
  intro h9
  dsimp only at hk hn
  try simp only [decide_eq_true_eq, decide_eq_false_iff_not, Bool.not_eq_true', Bool.not_eq_false', Int.not_lt, Int.not_le, ge_iff_le, Bool.not_true, Bool.not_false] at h9
  have hk1 : k < l.length := by omega
  have e1 := cost_take hk1
  have e2 := cost_le l (k + 1)
  refine cskip ?_
  refine nthen ?_
  refine cs ?_
  refine cb ?_
  refine cs ?_
  refine elC (by repeat' constructor) k (List.getElem?_eq_getElem (l := l) hk1) ?_; rintro zbp zop zyp hAp
  refine cr ?_
  refine ls (op (p_ia k hAp hk1 rfl Tryd.underlying34 Tryd.sizeOf51 rfl rfl) rfl) ?_
  refine ls (o_ldj Tryd.isAgg51 Tryd.sizeOf51 rfl (by repeat' constructor) 0 rfl (by repeat (first | exact Cut.d | apply Cut.t | apply Cut.s)) rfl) ?_
  refine ls (o_alloc Tryd.zeroValue51 rfl rfl) ?_
  refine le ?_; intro b5
  refine ls (o_st rfl Tryd.sizeOf51 rfl rfl rfl rfl rfl (by repeat' constructor) (by repeat' constructor) (by repeat' constructor)) ?_
  refine ln ?_
  refine nthen ?_
  refine cr ?_
  refine ls (op (p_move rfl) rfl) ?_
  refine ls (op (p_fa fa51_4 rfl) rfl) ?_
  refine ls (o_ld Tryd.isAgg22 rfl (by repeat' constructor) (by repeat' constructor) rfl) ?_
  refine ls (op (p_lenl rfl Tryd.underlying22) rfl) ?_
  refine ls (op (p_fa fa51_5 rfl) rfl) ?_
  refine ls (o_ld Tryd.isAgg22 rfl (by repeat' constructor) (by repeat' constructor) rfl) ?_
  refine ls (op (p_lenl rfl Tryd.underlying22) rfl) ?_
  refine ls (op (p_add rfl rfl (by have := cost_in hk1; omega)) rfl) ?_
  refine ls (op (p_add rfl rfl (by have := cost_in hk1; omega)) rfl) ?_
  refine ls (op (p_asg rfl) rfl) ?_
  refine ln ?_
  refine nblock ?_
  refine nthen ?_
  refine cr ?_
  refine ls (op (p_add rfl rfl (by omega)) rfl) ?_
  refine ls (op (p_move rfl) rfl) ?_
  refine ln ?_
  refine nnext ⟨(k + 1, n + ((l[k].old.length : Int) + (l[k].new.length : Int))), hk1, by dsimp only; omega⟩ (by dsimp only; omega) (wk (is := []) (by repeat (first | exact subσ.nil _ | refine subσ.cons rfl ?_)) rfl (by repeat' (first | constructor | apply Sub.suf)))
 ·
  intro h9
  dsimp only at hk hn
  try simp only [decide_eq_true_eq, decide_eq_false_iff_not, Bool.not_eq_true', Bool.not_eq_false', Int.not_lt, Int.not_le, ge_iff_le, Bool.not_true, Bool.not_false] at h9
  rw [List.take_of_length_le (by omega)] at hn
  refine cexit ?_
  refine xthen ?_
  refine xthen ?_
  refine xblock ?_
  refine nthen ?_
  refine cs ?_
  refine cr ?_
  refine ls (op (p_move rfl) rfl) ?_
  refine ls (op (p_asg rfl) rfl) ?_
  refine ln ?_
  refine nthen ?_
  refine cret ?_
  refine xret (fun _ _ h => h) ?_
  refine rret (is := []) () (Or.inl rfl) (Res.t rfl Res.d) ?_ rfl (by repeat' (first | constructor | apply Sub.suf))
  rw [hn]; rfl

set_option maxRecDepth 100000 in
theorem c_dLines (nm : ByteArray) (l m : List ByteArray) (A B : Option Addr) (c c' : Nat) (hl : l.length ≤ 1000000) (hm : m.length ≤ 1000000) (hc : l.length ≤ c) (hc' : m.length ≤ c') : Con Tryd.prog 14 [.string nm, .slice A l.length c, .slice B m.length c'] [] [slA A l, slA B m] (Option Addr × Nat) (fun x => .slice x.1 (linesT nm l m).length x.2) (fun x => [row 51 x.1 x.2 (linesT nm l m)]) (fun _ => []) := by
 refine con Tryd.func14 rfl Tryd.ntmps14 rfl ?_
 intro M0 F0 w0
 refine cs ?_
 refine cr ?_
 refine ls (op (p_asg rfl) rfl) ?_
 refine ln ?_
 refine nthen ?_
 refine cs ?_
 refine cs ?_
 refine cr ?_
 refine ls (op (p_move rfl) rfl) ?_
 refine ls (op (p_move rfl) rfl) ?_
 refine ls (o_call (is := []) Tryd.call26 (c_dLong l m A B c c') rfl rfl (by repeat' (first | constructor | apply Sub.suf)) rfl) ?_
 refine le ?_; intro x15
 refine ln ?_
 refine nthen ?_
 refine cc rfl ?_ ?_
 ·
  intro h15
  skip
  refine cs ?_
  refine cmono (fun a w h => nilRow (α := Prim) 51 h) ?_
  refine cmono (fun a w h => rowEq (α := Prim) (by repeat' constructor) (linesT_long (nm := nm) h15).symm (by repeat' constructor) h) ?_
  refine cr ?_
  refine ls (op (p_asg rfl) rfl) ?_
  refine ln ?_
  refine nthen ?_
  refine cret ?_
  refine xret (fun _ _ h => h) ?_
  refine rret (is := [0]) (none, 0) (Or.inl rfl) (Res.t rfl Res.d) ?_ rfl (by repeat' (first | constructor | apply Sub.suf))
  rw [linesT_long h15]; rfl
 ·
  intro h15
  obtain ⟨hl2, hm2⟩ := longB_no h15
  refine cskip ?_
  refine nthen ?_
  refine cs ?_
  refine cr ?_
  refine ls (op (p_asg rfl) rfl) ?_
  refine ln ?_
  refine nthen ?_
  refine cs ?_
  refine cmono (fun a w h => nilRow (α := Prim) 51 h) ?_
  refine cr ?_
  refine ls (op (p_bld sb31 rfl Fill.d) rfl) ?_
  refine ls (o_alloc Tryd.zeroValue31 rfl rfl) ?_
  refine le ?_; intro b8
  refine ls (o_st rfl Tryd.sizeOf31 rfl rfl rfl rfl rfl (by repeat' constructor) (by repeat' constructor) (by repeat' constructor)) ?_
  refine ln ?_
  refine nthen ?_
  refine cs ?_
  refine cs ?_
  refine cr ?_
  refine ls (op (p_move rfl) rfl) ?_
  refine ls (op (p_move rfl) rfl) ?_
  refine ls (o_call (is := []) Tryd.call10 (c_dCommon l m A B c c' hl hm) rfl rfl (by repeat' (first | constructor | apply Sub.suf)) rfl) ?_
  refine le ?_; rintro ⟨⟨o, ⟨A19, c19⟩⟩, hlo, hno⟩
  dsimp only at hlo hno
  obtain rfl := (hno h15).eq
  have hcm := commF_spec l m
  have hcl := hcm.len
  have hcl2 := lcs_lenl l m
  refine ls (op (p_move rfl) rfl) ?_
  refine ls (op (p_lenl rfl Tryd.underlying22) rfl) ?_
  refine ls (op (p_move rfl) rfl) ?_
  refine ls (op (p_lenl rfl Tryd.underlying22) rfl) ?_
  refine ls (op (p_bld sb31 rfl (Fill.t (by repeat' constructor) rfl rfl (by repeat' constructor) (Fill.t (by repeat' constructor) rfl rfl (by repeat' constructor) Fill.d))) rfl) ?_
  refine ls (o_bsl [(l.length, m.length)] Tryd.underlying25 Tryd.sizeOf31 Tryd.zeroValue31 rfl (Enum.t Enum.d) (RV.t () rfl (by repeat' (first | constructor | apply Sub.suf)) RV.d) rfl (by decide) (by decide) rfl) ?_
  refine le ?_; intro b25
  refine lmono (fun a w h => Go.Sx.freeze (i := 0) rfl h) ?_
  refine ls (o_app (is := [0]) Tryd.underlying25 inf31 rfl (by decide) (by decide) rfl rfl (by simp only [List.length_cons, List.length_nil]; omega) (fun h => by cases h) rfl (by repeat' (first | constructor | apply Sub.suf)) rfl) ?_
  refine le ?_; rintro ⟨A26, c26⟩
  refine lmono (fun a w h => Go.Sx.freeze (i := 0) rfl h) ?_
  refine ls (op (p_lenl rfl Tryd.underlying25) rfl) ?_
  refine ls (op (p_move rfl) rfl) ?_
  refine ln ?_
  refine nthen ?_
  refine cb ?_
  refine cl (ι := {q : Nat × Option Addr × Nat // q.1 ≤ (commF l m ++ [(l.length, m.length)]).length}) (fun i => St M0 F0 w0 55 [(0, .string nm), (1, .slice A l.length c), (2, .slice B m.length c'), (7, .slice i.1.2.1 (linF nm l m ((commF l m ++ [(l.length, m.length)]).take (i.1.1))).1.length i.1.2.2), (8, .pointer (some ⟨b8, 0, none⟩)), (26, .slice A26 (commF l m ++ [(l.length, m.length)]).length c26), (27, .int .i64 (((commF l m ++ [(l.length, m.length)]).length : Nat) : Int)), (28, .int .i64 ((i.1.1 : Nat) : Int))] [row 51 (i.1.2.1) (i.1.2.2) (linF nm l m ((commF l m ++ [(l.length, m.length)]).take (i.1.1))).1, box b8 31 [.int .i64 (((linF nm l m ((commF l m ++ [(l.length, m.length)]).take (i.1.1))).2.1 : Nat) : Int), .int .i64 (((linF nm l m ((commF l m ++ [(l.length, m.length)]).take (i.1.1))).2.2 : Nat) : Int)]] [slA A l, slA B m, slA A26 (commF l m ++ [(l.length, m.length)])]) (fun i => (commF l m ++ [(l.length, m.length)]).length - i.1.1) ⟨(0, none, 0), Nat.zero_le _⟩ (wk (is := [1, 0]) (by repeat (first | exact subσ.nil _ | refine subσ.cons rfl ?_)) rfl (by repeat' (first | constructor | apply Sub.suf))) ?_
  rintro ⟨⟨k, A7, c7⟩, hk⟩
  refine cmono (S' := St M0 F0 w0 55 [(0, .string nm), (1, .slice A l.length c), (2, .slice B m.length c'), (7, .slice A7 (linF nm l m ((commF l m ++ [(l.length, m.length)]).take (k))).1.length c7), (8, .pointer (some ⟨b8, 0, none⟩)), (26, .slice A26 (commF l m ++ [(l.length, m.length)]).length c26), (27, .int .i64 (((commF l m ++ [(l.length, m.length)]).length : Nat) : Int)), (28, .int .i64 ((k : Nat) : Int))] [row 51 (A7) (c7) (linF nm l m ((commF l m ++ [(l.length, m.length)]).take (k))).1, box b8 31 [.int .i64 (((linF nm l m ((commF l m ++ [(l.length, m.length)]).take (k))).2.1 : Nat) : Int), .int .i64 (((linF nm l m ((commF l m ++ [(l.length, m.length)]).take (k))).2.2 : Nat) : Int)]] [slA A l, slA B m, slA A26 (commF l m ++ [(l.length, m.length)])]) (fun _ _ h => h) ?_
  refine cs ?_
  refine cr ?_
  refine ls (op (p_icmp rfl rfl rfl) rfl) ?_
  refine ln ?_
  refine nthen ?_
  refine cs ?_
  refine cc rfl ?_ ?_
  ·
   intro h29
   dsimp only at hk
   try simp only [decide_eq_true_eq, decide_eq_false_iff_not, Bool.not_eq_true', Bool.not_eq_false', Int.not_lt, Int.not_le, ge_iff_le, Bool.not_true, Bool.not_false] at h29
   have hk1 : k < (commF l m ++ [(l.length, m.length)]).length := by omega
   have hPL : (commF l m ++ [(l.length, m.length)]).length ≤ 201 := by simp only [List.length_append, List.length_singleton]; omega
   have hst := hcm.step (nm := nm) k hk1
   have hlt := linF_take (nm := nm) (a := l) (b := m) hk1
   have hln := linF_len nm l m ((commF l m ++ [(l.length, m.length)]).take k)
   have hln2 : ((commF l m ++ [(l.length, m.length)]).take k).length ≤ 201 := by simp only [List.length_take, List.length_append, List.length_singleton]; omega
   refine cskip ?_
   refine nthen ?_
   refine cs ?_
   refine cb ?_
   refine cs ?_
   refine elC (A := A26) (l := (commF l m ++ [(l.length, m.length)])) (by repeat' constructor) k (List.getElem?_eq_getElem hk1) ?_; rintro zbp zop zyp hAp
   refine cr ?_
   refine ls (op (p_ia k hAp hk1 rfl Tryd.underlying25 Tryd.sizeOf31 rfl rfl) rfl) ?_
   refine ls (o_ldj Tryd.isAgg31 Tryd.sizeOf31 rfl (by repeat' constructor) 0 rfl (by repeat (first | exact Cut.d | apply Cut.t | apply Cut.s)) rfl) ?_
   refine ls (o_alloc Tryd.zeroValue31 rfl rfl) ?_
   refine le ?_; intro b10
   refine ls (o_st rfl Tryd.sizeOf31 rfl rfl rfl rfl rfl (by repeat' constructor) (by repeat' constructor) (by repeat' constructor)) ?_
   refine ln ?_
   refine nthen ?_
   refine cs ?_
   refine cs ?_
   refine cr ?_
   refine ls (op (p_move rfl) rfl) ?_
   refine ls (op (p_move rfl) rfl) ?_
   refine ls (op (p_move rfl) rfl) ?_
   refine ls (o_ldw Tryd.isAgg31 Tryd.sizeOf31 rfl (by repeat' constructor) (by rfl) rfl) ?_
   refine ls (o_ldw Tryd.isAgg31 Tryd.sizeOf31 rfl (by repeat' constructor) (by rfl) rfl) ?_
   refine ls (o_call (is := []) Tryd.call30 (c_dHunk nm l m A B c c' hl hm hc hc' (linF nm l m ((commF l m ++ [(l.length, m.length)]).take (k))).2 (commF l m ++ [(l.length, m.length)])[k] hst.1 hst.2.1 hst.2.2.1 hst.2.2.2) rfl rfl (by repeat' (first | constructor | apply Sub.suf)) rfl) ?_
   refine le ?_; rintro ⟨⟨A38, c38⟩, ⟨A39, c39⟩⟩
   refine ls (op (p_move rfl) rfl) ?_
   refine ls (op (p_ext rfl (by repeat' constructor)) rfl) ?_
   refine ls (op (p_ext rfl (by repeat' constructor)) rfl) ?_
   refine ls (o_alloc Tryd.zeroValue51 rfl rfl) ?_
   refine le ?_; intro b11
   refine ls (o_st rfl Tryd.sizeOf51 rfl rfl rfl rfl rfl (by repeat' constructor) (by repeat' constructor) (by repeat' constructor)) ?_
   refine ls (op (p_asg rfl) rfl) ?_
   refine ln ?_
   refine nthen ?_
   refine cs ?_
   refine cr ?_
   refine ls (op (p_move rfl) rfl) ?_
   refine ln ?_
   refine nthen ?_
   refine cc rfl ?_ ?_
   ·
    intro h41
    have hq : (linF nm l m ((commF l m ++ [(l.length, m.length)]).take (k))).2.1 < (commF l m ++ [(l.length, m.length)])[k].1 ∨ (linF nm l m ((commF l m ++ [(l.length, m.length)]).take (k))).2.2 < (commF l m ++ [(l.length, m.length)])[k].2 := of_decide_eq_true h41
    have hh : Go.Proofs.YtdbiillompeclaaDoor.X.hk nm l m (linF nm l m ((commF l m ++ [(l.length, m.length)]).take (k))).2 (commF l m ++ [(l.length, m.length)])[k] = [hunkP nm l m (linF nm l m ((commF l m ++ [(l.length, m.length)]).take (k))).2 (commF l m ++ [(l.length, m.length)])[k]] := if_pos hq
    refine cr ?_
    refine ls (op (p_move rfl) rfl) ?_
    refine ls (o_ldw Tryd.isAgg51 Tryd.sizeOf51 rfl (by repeat' constructor) (by rfl) rfl) ?_
    refine ls (o_bsl [hunkP nm l m (linF nm l m ((commF l m ++ [(l.length, m.length)]).take (k))).2 (commF l m ++ [(l.length, m.length)])[k]] Tryd.underlying34 Tryd.sizeOf51 Tryd.zeroValue51 rfl (Enum.t Enum.d) (RV.t ((A38, c38), (A39, c39)) rfl (by repeat' (first | constructor | apply Sub.suf)) RV.d) rfl (by decide) (by decide) rfl) ?_
    refine le ?_; intro b44
    refine lmono (fun a w h => Go.Sx.freeze (i := 0) rfl h) ?_
    refine ls (o_app (is := [2]) Tryd.underlying34 inf51 rfl (by decide) (by decide) rfl rfl (by simp only [List.length_cons, List.length_nil]; omega) (fun h => by cases h) rfl (by repeat' (first | constructor | apply Sub.suf)) rfl) ?_
    refine le ?_; rintro ⟨A45, c45⟩
    refine ls (op (p_asg rfl) rfl) ?_
    refine ln ?_
    refine nthen ?_
    refine cr ?_
    refine ls (op (p_fa fa31_0 rfl) rfl) ?_
    refine ls (o_ld Tryd.isAgg3 rfl (by repeat' constructor) (by repeat' constructor) rfl) ?_
    refine ls (op (p_add rfl rfl (by omega)) rfl) ?_
    refine ls (op (p_fa fa31_1 rfl) rfl) ?_
    refine ls (o_ld Tryd.isAgg3 rfl (by repeat' constructor) (by repeat' constructor) rfl) ?_
    refine ls (op (p_add rfl rfl (by omega)) rfl) ?_
    refine ls (op (p_bld sb31 rfl (Fill.t (by repeat' constructor) rfl rfl (by repeat' constructor) (Fill.t (by repeat' constructor) rfl rfl (by repeat' constructor) Fill.d))) rfl) ?_
    refine ls (o_st rfl Tryd.sizeOf31 rfl rfl rfl rfl rfl (by repeat' constructor) (by repeat' constructor) (by repeat' constructor)) ?_
    refine ln ?_
    refine nblock ?_
    refine nthen ?_
    refine cr ?_
    refine ls (op (p_add rfl rfl (by omega)) rfl) ?_
    refine ls (op (p_move rfl) rfl) ?_
    refine ln ?_
    refine nnext ⟨(k + 1, A45, c45), hk1⟩ (by dsimp only; omega) (fun a w h => by dsimp only; rw [hlt, hh]; exact wk (is := [0, 2]) (by repeat (first | exact subσ.nil _ | refine subσ.cons rfl ?_)) rfl (by repeat' (first | constructor | apply Sub.suf)) a w h)
   ·
    intro h41
    have hq : ¬ ((linF nm l m ((commF l m ++ [(l.length, m.length)]).take (k))).2.1 < (commF l m ++ [(l.length, m.length)])[k].1 ∨ (linF nm l m ((commF l m ++ [(l.length, m.length)]).take (k))).2.2 < (commF l m ++ [(l.length, m.length)])[k].2) := of_decide_eq_false h41
    have hh : Go.Proofs.YtdbiillompeclaaDoor.X.hk nm l m (linF nm l m ((commF l m ++ [(l.length, m.length)]).take (k))).2 (commF l m ++ [(l.length, m.length)])[k] = [] := if_neg hq
    refine cskip ?_
    refine nthen ?_
    refine cr ?_
    refine ls (op (p_fa fa31_0 rfl) rfl) ?_
    refine ls (o_ld Tryd.isAgg3 rfl (by repeat' constructor) (by repeat' constructor) rfl) ?_
    refine ls (op (p_add rfl rfl (by omega)) rfl) ?_
    refine ls (op (p_fa fa31_1 rfl) rfl) ?_
    refine ls (o_ld Tryd.isAgg3 rfl (by repeat' constructor) (by repeat' constructor) rfl) ?_
    refine ls (op (p_add rfl rfl (by omega)) rfl) ?_
    refine ls (op (p_bld sb31 rfl (Fill.t (by repeat' constructor) rfl rfl (by repeat' constructor) (Fill.t (by repeat' constructor) rfl rfl (by repeat' constructor) Fill.d))) rfl) ?_
    refine ls (o_st rfl Tryd.sizeOf31 rfl rfl rfl rfl rfl (by repeat' constructor) (by repeat' constructor) (by repeat' constructor)) ?_
    refine ln ?_
    refine nblock ?_
    refine nthen ?_
    refine cr ?_
    refine ls (op (p_add rfl rfl (by omega)) rfl) ?_
    refine ls (op (p_move rfl) rfl) ?_
    refine ln ?_
    refine nnext ⟨(k + 1, A7, c7), hk1⟩ (by dsimp only; omega) (fun a w h => by dsimp only; rw [hlt, hh, List.append_nil]; exact wk (is := [2, 2]) (by repeat (first | exact subσ.nil _ | refine subσ.cons rfl ?_)) rfl (by repeat' (first | constructor | apply Sub.suf)) a w h)
  ·
   intro h29
   dsimp only at hk
   try simp only [decide_eq_true_eq, decide_eq_false_iff_not, Bool.not_eq_true', Bool.not_eq_false', Int.not_lt, Int.not_le, ge_iff_le, Bool.not_true, Bool.not_false] at h29
   obtain rfl : k = (commF l m ++ [(l.length, m.length)]).length := by omega
   rw [List.take_length]
   refine cexit ?_
   refine xthen ?_
   refine xthen ?_
   refine xblock ?_
   refine nthen ?_
   refine cs ?_
   refine cmono (fun a w h => rowEq (α := Prim) (by repeat' constructor) (linesT_not (nm := nm) h15).symm (by repeat' constructor) h) ?_
   refine cr ?_
   refine ls (op (p_move rfl) rfl) ?_
   refine ls (op (p_asg rfl) rfl) ?_
   refine ln ?_
   refine nthen ?_
   refine cret ?_
   refine xret (fun _ _ h => h) ?_
   refine rret (is := [0]) (A7, c7) (Or.inl rfl) (Res.t rfl Res.d) ?_ rfl (by repeat' (first | constructor | apply Sub.suf))
   rw [linesT_not h15]; rfl

set_option maxRecDepth 100000 in
theorem c_IndexFuncK (l : List ByteArray) (A : Option Addr) (c : Nat) (hl : l.length ≤ 2000000) (f : ByteArray → Bool) (g : FuncId) (cap : List Value) (Γf : List Asn) (x : Xsn) (hcf : ∀ args w, (callFunc g args).run Tryd.prog w = .ok (.enter g args) w) (hg : ∀ s, Con Tryd.prog g (.string s :: cap) [x] Γf Unit (fun _ => .bool (f s)) (fun _ => [x]) (fun _ => [])) : Con Tryd.prog 65 [.slice A l.length c, .func (.func g) #[] cap.toArray] [row 9 A c (l), x] Γf {r : Int // (r = -1 ∧ l.any f = false) ∨ ∃ k : Nat, r = (k : Int) ∧ ∃ h : k < l.length, (l.take k).any f = false ∧ f l[k] = true} (fun r => .int .i64 r.1) (fun _ => [row 9 A c (l), x]) (fun _ => []) := by
 refine con Tryd.func65 rfl Tryd.ntmps65 rfl ?_
 intro M0 F0 w0
 refine cs ?_
 refine cr ?_
 refine ls (op (p_asg rfl) rfl) ?_
 refine ln ?_
 refine nthen ?_
 refine cs ?_
 refine cs ?_
 refine cr ?_
 refine ls (op (p_move rfl) rfl) ?_
 refine ls (op (p_lenl rfl Tryd.underlying22) rfl) ?_
 refine ls (op (p_move rfl) rfl) ?_
 refine ln ?_
 refine nthen ?_
 refine cb ?_
 refine cl (ι := {k : Nat // k ≤ l.length ∧ (l.take k).any f = false}) (fun i => St M0 F0 w0 19 [(0, .slice A l.length c), (1, .func (.func g) #[] cap.toArray), (7, .int .i64 (l.length : Int)), (8, .int .i64 (i.1 : Int))] [row 9 A c (l), x] Γf) (fun i => l.length - i.1) ⟨0, by simp⟩ (wk0 (by repeat (first | exact subσ.nil _ | refine subσ.cons rfl ?_)) (by repeat' (first | constructor | apply Sub.suf))) ?_
 rintro ⟨k, hk, hkk⟩
 refine cmono (S' := St M0 F0 w0 19 [(0, .slice A l.length c), (1, .func (.func g) #[] cap.toArray), (7, .int .i64 (l.length : Int)), (8, .int .i64 (k : Int))] [row 9 A c (l), x] Γf) (fun _ _ h => h) ?_
 refine cs ?_
 refine cr ?_
 refine ls (op (p_icmp rfl rfl rfl) rfl) ?_
 refine ln ?_
 refine nthen ?_
 refine cs ?_
 refine cc rfl ?_ ?_
 ·
  intro h9
  try simp only [decide_eq_true_eq, decide_eq_false_iff_not, Bool.not_eq_true', Bool.not_eq_false', Int.not_lt, Int.not_le, ge_iff_le, Bool.not_true, Bool.not_false] at h9
  have hk1 : k < l.length := by omega
  refine cskip ?_
  refine nthen ?_
  refine cs ?_
  refine cb ?_
  refine cs ?_
  refine cr ?_
  refine ls (op (p_move rfl) rfl) ?_
  refine ls (op (p_asg rfl) rfl) ?_
  refine ln ?_
  refine nthen ?_
  refine cs ?_
  refine rowC (α := ByteArray) (A := A) (l := l) (by repeat' constructor) (List.ne_nil_of_length_pos (by omega)) ?_
  rintro g0 rfl
  refine cr ?_
  refine ls (op (p_move rfl) rfl) ?_
  refine ls (op (p_move rfl) rfl) ?_
  refine ls (op (p_move rfl) rfl) ?_
  refine ls (op (p_ia k rfl hk1 rfl Tryd.underlying22 Tryd.sizeOf9 rfl rfl) rfl) ?_
  refine ls (o_ldrS Tryd.isAgg9 rfl (by repeat' constructor) (List.getElem?_eq_getElem hk1) rfl) ?_
  refine ls (o_callv (is := [1]) rfl hcf (hg l[k]) rfl rfl rfl (by repeat' (first | constructor | apply Sub.suf)) rfl) ?_
  refine le ?_; intro x16
  refine ln ?_
  refine nthen ?_
  refine cc rfl ?_ ?_
  ·
   intro h16
   try simp only [decide_eq_true_eq, decide_eq_false_iff_not, Bool.not_eq_true', Bool.not_eq_false', Int.not_lt, Int.not_le, ge_iff_le, Bool.not_true, Bool.not_false] at h16
   refine cs ?_
   refine cr ?_
   refine ls (op (p_move rfl) rfl) ?_
   refine ls (op (p_asg rfl) rfl) ?_
   refine ln ?_
   refine nthen ?_
   refine cret ?_
   refine xret (fun _ _ h => h) ?_
   refine rret (is := [1, 0]) ⟨(k : Int), .inr ⟨k, rfl, hk1, hkk, h16⟩⟩ (Or.inl rfl) (Res.t rfl Res.d) (rfl) rfl (by repeat' (first | constructor | apply Sub.suf))
  ·
   intro h16
   try simp only [decide_eq_true_eq, decide_eq_false_iff_not, Bool.not_eq_true', Bool.not_eq_false', Int.not_lt, Int.not_le, ge_iff_le, Bool.not_true, Bool.not_false] at h16
   refine cskip ?_
   refine nblock ?_
   refine nthen ?_
   refine cr ?_
   refine ls (op (p_add rfl rfl (by omega)) rfl) ?_
   refine ls (op (p_move rfl) rfl) ?_
   refine ln ?_
   refine nnext ⟨k + 1, hk1, by rw [List.take_succ_eq_append_getElem hk1, List.any_append, hkk]; simp [h16]⟩ (by dsimp only; omega) (wk (is := [1, 0]) (by repeat (first | exact subσ.nil _ | refine subσ.cons rfl ?_)) rfl (by repeat' (first | constructor | apply Sub.suf)))
 ·
  intro h9
  try simp only [decide_eq_true_eq, decide_eq_false_iff_not, Bool.not_eq_true', Bool.not_eq_false', Int.not_lt, Int.not_le, ge_iff_le, Bool.not_true, Bool.not_false] at h9
  refine cexit ?_
  refine xthen ?_
  refine xthen ?_
  refine xblock ?_
  refine nthen ?_
  refine cs ?_
  refine cr ?_
  refine ls (op (p_asg rfl) rfl) ?_
  refine ln ?_
  refine nthen ?_
  refine cret ?_
  refine xret (fun _ _ h => h) ?_
  refine rret (is := [0, 0]) ⟨-1, .inl ⟨rfl, by rw [List.take_of_length_le (by omega)] at hkk; exact hkk⟩⟩ (Or.inl rfl) (Res.t rfl Res.d) (rfl) rfl (by repeat' (first | constructor | apply Sub.suf))

set_option maxRecDepth 100000 in
theorem c_DeleteFunc (l : List ByteArray) (A : Option Addr) (c : Nat) (hl : l.length ≤ 2000000) (f : ByteArray → Bool) (g : FuncId) (cap : List Value) (Γf : List Asn) (x : Xsn) (hcf : ∀ args w, (callFunc g args).run Tryd.prog w = .ok (.enter g args) w) (hg : ∀ s, Con Tryd.prog g (.string s :: cap) [x] Γf Unit (fun _ => .bool (f s)) (fun _ => [x]) (fun _ => [])) : Con Tryd.prog 55 [.slice A l.length c, .func (.func g) #[] cap.toArray] [row 9 A c (l), x] Γf Unit (fun _ => .slice A (l.filter fun s => !f s).length c) (fun _ => [row 9 A c ((l.filter fun s => !f s)), x]) (fun _ => []) := by
 refine con Tryd.func55 rfl Tryd.ntmps55 rfl ?_
 intro M0 F0 w0
 refine cs ?_
 refine cr ?_
 refine ls (op (p_asg rfl) rfl) ?_
 refine ln ?_
 refine nthen ?_
 refine cs ?_
 refine cr ?_
 refine ls (op (p_move rfl) rfl) ?_
 refine ls (op (p_move rfl) rfl) ?_
 refine ls (o_call (is := [0, 0]) Tryd.call65 (c_IndexFuncK l A c hl f g cap Γf x hcf hg) rfl rfl (by repeat' (first | constructor | apply Sub.suf)) rfl) ?_
 refine le ?_; rintro ⟨r, hr⟩
 refine ls (op (p_asg rfl) rfl) ?_
 refine ln ?_
 refine nthen ?_
 refine cs ?_
 refine cs ?_
 refine cr ?_
 refine ls (op (p_move rfl) rfl) ?_
 refine ls (op (p_icmp rfl rfl rfl) rfl) ?_
 refine ln ?_
 refine nthen ?_
 refine cc rfl ?_ ?_
 ·
  intro h12
  have hn : l.any f = false := by rcases hr with ⟨_, h⟩ | ⟨k, rfl, _⟩; exact h; simp at h12
  refine cs ?_
  refine cmono (fun a w h => rowEq (α := ByteArray) (by repeat' constructor) (filter_none hn) (by repeat' constructor) h) ?_
  refine cr ?_
  refine ls (op (p_move rfl) rfl) ?_
  refine ls (op (p_asg rfl) rfl) ?_
  refine ln ?_
  refine nthen ?_
  refine cret ?_
  refine xret (fun _ _ h => h) ?_
  refine rret (is := [0, 0]) () (Or.inl rfl) (Res.t rfl Res.d) ?_ rfl (by repeat' (first | constructor | apply Sub.suf))
  rw [← filter_none hn]; rfl
 ·
  intro h12
  obtain ⟨k0, rfl, hk0, hk1, hk2⟩ : ∃ k : Nat, r = (k : Int) ∧ ∃ h : k < l.length, (l.take k).any f = false ∧ f l[k] = true := by rcases hr with ⟨rfl, _⟩ | h; simp at h12; exact h
  refine cskip ?_
  refine nthen ?_
  refine cs ?_
  refine cs ?_
  refine cr ?_
  refine ls (op (p_move rfl) rfl) ?_
  refine ls (op (p_add rfl rfl (by dsimp only; omega)) rfl) ?_
  refine ls (op (p_asg rfl) rfl) ?_
  refine ln ?_
  refine nthen ?_
  refine cb ?_
  refine cl (ι := {q : (Nat × Nat) × List ByteArray // DelI l f q.1.1 q.1.2 q.2}) (fun i => St M0 F0 w0 42 [(0, .slice A l.length c), (1, .func (.func g) #[] cap.toArray), (5, .int .i64 ((i.1.1.1 : Nat) : Int)), (6, .int .i64 ((i.1.1.2 : Nat) : Int))] [row 9 A c (i.1.2), x] Γf) (fun i => l.length - i.1.1.2) ⟨((k0, k0 + 1), l), DelI.start hk0 hk1 hk2⟩ (wk0 (by repeat (first | exact subσ.nil _ | refine subσ.cons rfl ?_)) (by repeat' (first | constructor | apply Sub.suf))) ?_
  rintro ⟨⟨⟨i, j⟩, L⟩, hI⟩
  refine cmono (S' := St M0 F0 w0 42 [(0, .slice A l.length c), (1, .func (.func g) #[] cap.toArray), (5, .int .i64 ((i : Nat) : Int)), (6, .int .i64 ((j : Nat) : Int))] [row 9 A c (L), x] Γf) (fun _ _ h => h) ?_
  refine cs ?_
  refine cs ?_
  refine cr ?_
  refine ls (op (p_move rfl) rfl) ?_
  refine ls (op (p_move rfl) rfl) ?_
  refine ls (op (p_lenl rfl Tryd.underlying22) rfl) ?_
  refine ls (op (p_icmp rfl rfl rfl) rfl) ?_
  refine ln ?_
  refine nthen ?_
  refine cc rfl ?_ ?_
  ·
   intro h19
   dsimp only at hI
   try simp only [decide_eq_true_eq, decide_eq_false_iff_not, Bool.not_eq_true', Bool.not_eq_false', Int.not_lt, Int.not_le, ge_iff_le, Bool.not_true, Bool.not_false] at h19
   have hj1 : j < l.length := by omega
   have hIl := hI.len; have hIj := hI.ij
   refine cskip ?_
   refine nthen ?_
   refine cs ?_
   refine cb ?_
   refine cs ?_
   refine rowC (α := ByteArray) (A := A) (l := L) (by repeat' constructor) (List.ne_nil_of_length_pos (by omega)) ?_
   rintro g0 rfl
   refine cr ?_
   refine ls (op (p_move rfl) rfl) ?_
   refine ls (op (p_move rfl) rfl) ?_
   refine ls (op (p_ia j rfl hj1 rfl Tryd.underlying22 Tryd.sizeOf9 rfl rfl) rfl) ?_
   refine ls (o_ldrS Tryd.isAgg9 rfl (by repeat' constructor) (hI.get hj1) rfl) ?_
   refine ls (op (p_asg rfl) rfl) ?_
   refine ln ?_
   refine nthen ?_
   refine cs ?_
   refine cr ?_
   refine ls (op (p_move rfl) rfl) ?_
   refine ls (op (p_move rfl) rfl) ?_
   refine ls (o_callv (is := [1]) rfl hcf (hg l[j]) rfl rfl rfl (by repeat' (first | constructor | apply Sub.suf)) rfl) ?_
   refine le ?_; intro x28
   refine ls (op (p_not rfl) rfl) ?_
   refine ln ?_
   refine nthen ?_
   refine cc rfl ?_ ?_
   ·
    intro h29
    have hf : f l[j] = false := by simpa using h29
    refine cs ?_
    refine cr ?_
    refine ls (op (p_move rfl) rfl) ?_
    refine ls (op (p_move rfl) rfl) ?_
    refine ls (op (p_move rfl) rfl) ?_
    refine ls (op (p_ia i rfl (by omega) rfl Tryd.underlying22 Tryd.sizeOf9 rfl rfl) rfl) ?_
    refine ls (o_strowE (j := i) (z := l[j]) (yz := ()) rfl Tryd.sizeOf9 rfl rfl rfl (by repeat' constructor) (by omega) rfl (by repeat' constructor) (by repeat' (first | constructor | apply Sub.suf))) ?_
    refine ln ?_
    refine nthen ?_
    refine cr ?_
    refine ls (op (p_move rfl) rfl) ?_
    refine ls (op (p_add rfl rfl (by omega)) rfl) ?_
    refine ls (op (p_asg rfl) rfl) ?_
    refine ln ?_
    refine nblock ?_
    refine nthen ?_
    refine cr ?_
    refine ls (op (p_move rfl) rfl) ?_
    refine ls (op (p_add rfl rfl (by omega)) rfl) ?_
    refine ls (op (p_asg rfl) rfl) ?_
    refine ln ?_
    refine nnext ⟨((i + 1, j + 1), L.set i l[j]), hI.keep hj1 hf⟩ (by dsimp only; omega) (wk (is := [1, 0]) (by repeat (first | exact subσ.nil _ | refine subσ.cons rfl ?_)) rfl (by repeat' (first | constructor | apply Sub.suf)))
   ·
    intro h29
    have hf : f l[j] = true := by simpa using h29
    refine cskip ?_
    refine nblock ?_
    refine nthen ?_
    refine cr ?_
    refine ls (op (p_move rfl) rfl) ?_
    refine ls (op (p_add rfl rfl (by omega)) rfl) ?_
    refine ls (op (p_asg rfl) rfl) ?_
    refine ln ?_
    refine nnext ⟨((i, j + 1), L), hI.skip hj1 hf⟩ (by dsimp only; omega) (wk (is := [1, 0]) (by repeat (first | exact subσ.nil _ | refine subσ.cons rfl ?_)) rfl (by repeat' (first | constructor | apply Sub.suf)))
  ·
   intro h19
   dsimp only at hI
   try simp only [decide_eq_true_eq, decide_eq_false_iff_not, Bool.not_eq_true', Bool.not_eq_false', Int.not_lt, Int.not_le, ge_iff_le, Bool.not_true, Bool.not_false] at h19
   have h19' : ¬ j < l.length := by omega
   have hIl := hI.len; have hIj := hI.ij; have hIk := hI.jl
   refine cexit ?_
   refine xthen ?_
   refine xthen ?_
   refine xblock ?_
   refine nthen ?_
   refine cs ?_
   refine rowLeC (α := ByteArray) (l := L) (by repeat' constructor) (fun hlc => ?_)
   refine cr ?_
   refine ls (op (p_move rfl) rfl) ?_
   refine ls (op (p_move rfl) rfl) ?_
   refine ls (op (p_sll i (by omega) (by omega) rfl Tryd.underlying22 Tryd.sizeOf9 rfl rfl) rfl) ?_
   refine ls (o_clr (lo := i) (N := l.length) hIl Tryd.underlying22 Tryd.zeroValue9 rfl (by omega) (by repeat' constructor) (by repeat' constructor)) ?_
   refine ln ?_
   refine nthen ?_
   refine cs ?_
   refine cmono (fun a w h => rowTk (α := ByteArray) (l := L.take i ++ List.replicate (l.length - i) ⟨#[]⟩) i (by simp only [List.length_append, List.length_take, List.length_replicate]; omega) (by repeat' constructor) (by repeat' constructor) h) ?_
   obtain ⟨hd1, hd2⟩ := hI.done h19' (List.replicate (l.length - i) ⟨#[]⟩)
   refine cmono (fun a w h => rowEq (α := ByteArray) (by repeat' constructor) hd1 (by repeat' constructor) h) ?_
   refine cr ?_
   refine ls (op (p_move rfl) rfl) ?_
   refine ls (op (p_move rfl) rfl) ?_
   refine ls (op (p_slh i (by omega) rfl Tryd.underlying22 Tryd.sizeOf9 rfl rfl) rfl) ?_
   refine fixL slh_val ?_
   refine ls (op (p_asg rfl) rfl) ?_
   refine ln ?_
   refine nthen ?_
   refine cret ?_
   refine xret (fun _ _ h => h) ?_
   refine rret (is := [0, 0]) () (Or.inl rfl) (Res.t rfl Res.d) ?_ rfl (by repeat' (first | constructor | apply Sub.suf))
   rw [← hd2]; rfl

set_option maxRecDepth 100000 in
theorem c_wide1 (s : ByteArray) (q p b : Nat) (T : List File) (hT : Tfit T) : Con Tryd.prog 54 [.string s, .pointer (some ⟨q, 0, none⟩)] [box q 39 [.pointer (some ⟨p, 0, none⟩)], box p 75 [.map (some b)], tr b T] [] Unit (fun _ => .bool (longB (getL T s) [])) (fun _ => [box q 39 [.pointer (some ⟨p, 0, none⟩)], box p 75 [.map (some b)], tr b T]) (fun _ => []) := by
 refine con Tryd.func54 rfl Tryd.ntmps54 rfl ?_
 intro M0 F0 w0
 refine cs ?_
 refine cr ?_
 refine ls (op (p_asg rfl) rfl) ?_
 refine ln ?_
 refine nthen ?_
 refine cs ?_
 refine cr ?_
 refine ls (o_ld Tryd.isAgg39 rfl (by repeat' constructor) (by repeat' constructor) rfl) ?_
 refine ls (op (p_move rfl) rfl) ?_
 refine ls (o_call (is := [1, 1]) Tryd.call35 (c_tGet p b T hT s) rfl rfl (by repeat' (first | constructor | apply Sub.suf)) rfl) ?_
 refine le ?_; rintro ⟨A9, c9⟩
 refine ls (op (p_move rfl) rfl) ?_
 refine ls (op (p_ext rfl (by repeat' constructor)) rfl) ?_
 refine ls (op (p_ext rfl (by repeat' constructor)) rfl) ?_
 refine ls (op (p_asg rfl) rfl) ?_
 refine ls (op (p_asg rfl) rfl) ?_
 refine ln ?_
 refine nthen ?_
 refine cs ?_
 refine cr ?_
 refine ls (op (p_move rfl) rfl) ?_
 refine ls (o_call (is := []) Tryd.call26 (c_dLong (getL T s) [] A9 none c9 0) rfl rfl (by repeat' (first | constructor | apply Sub.suf)) rfl) ?_
 refine le ?_; intro x13
 refine ls (op (p_asg rfl) rfl) ?_
 refine ln ?_
 refine nthen ?_
 refine cret ?_
 refine xret (fun _ _ h => h) ?_
 refine rret (is := [3, 1, 1]) () (Or.inl rfl) (Res.t rfl Res.d) (rfl) rfl (by repeat' (first | constructor | apply Sub.suf))

set_option maxRecDepth 100000 in
theorem c_wide (p b : Nat) (T : List File) (hT : Tfit T) (hn : T.length ≤ 2000000) : Con Tryd.prog 33 [.pointer (some ⟨p, 0, none⟩)] [box p 75 [.map (some b)], tr b T] [] Unit (fun _ => .bool (wideB T)) (fun _ => [box p 75 [.map (some b)], tr b T]) (fun _ => []) := by
 refine con Tryd.func33 rfl Tryd.ntmps33 rfl ?_
 intro M0 F0 w0
 refine cs ?_
 refine cr ?_
 refine ls (o_box rfl rfl rfl) ?_
 refine le ?_; intro b1
 refine ls (op (p_asg rfl) rfl) ?_
 refine ln ?_
 refine nthen ?_
 refine cs ?_
 refine cr ?_
 refine ls (o_ld Tryd.isAgg39 rfl (by repeat' constructor) (by repeat' constructor) rfl) ?_
 refine ls (o_call (is := [1, 1]) Tryd.call52 (c_tNames p b T hn) rfl rfl (by repeat' (first | constructor | apply Sub.suf)) rfl) ?_
 refine le ?_; rintro ⟨A4, c4⟩
 refine lmono (fun a w h => Go.Sx.freeze (i := 0) rfl h) ?_
 refine lmono (fun a w h => stBun (is := [2, 0, 0]) (Γ1 := []) rfl Sub.d h) ?_
 refine fixL (slen (m' := (T.map (·.1)).length) (by rw [List.length_map])) ?_
 refine ls (op (p_mkf rfl) rfl) ?_
 refine ls (o_call (is := [0]) Tryd.call53 (c_ContainsFunc1 (T.map (·.1)) A4 c4 (by rw [List.length_map]; exact hn) (fun s => longB (getL T s) []) 54 [.pointer (some ⟨b1, 0, none⟩)] [] (bun [box b1 39 [.pointer (some ⟨p, 0, none⟩)], box p 75 [.map (some b)], tr b T] []) Tryd.call54 (fun s _ => con_bun (Ξ0 := []) (Ξo := fun _ => []) (c_wide1 s b1 p b T hT))) rfl rfl (by repeat' (first | constructor | apply Sub.suf)) rfl) ?_
 refine le ?_; intro x6
 refine lmono (fun a w h => stUnbun (i := 0) rfl h) ?_
 refine ls (op (p_asg rfl) rfl) ?_
 refine ln ?_
 refine nthen ?_
 refine cret ?_
 refine xret (fun _ _ h => h) ?_
 refine rret (is := [1, 1]) () (Or.inl rfl) (Res.t rfl Res.d) (rfl) rfl (by repeat' (first | constructor | apply Sub.suf))

set_option maxRecDepth 100000 in
theorem c_files1 (s : ByteArray) (q e p b : Nat) (T : List File) (hT : Tfit T) (both : Bool) : Con Tryd.prog 56 [.string s, .pointer (some ⟨q, 0, none⟩), .pointer (some ⟨e, 0, none⟩)] [box q 39 [.pointer (some ⟨p, 0, none⟩)], box e 4 [.bool both], box p 75 [.map (some b)], tr b T] [] Unit (fun _ => .bool (!(hasT T s == both))) (fun _ => [box q 39 [.pointer (some ⟨p, 0, none⟩)], box e 4 [.bool both], box p 75 [.map (some b)], tr b T]) (fun _ => []) := by
 refine con Tryd.func56 rfl Tryd.ntmps56 rfl ?_
 intro M0 F0 w0
 refine cs ?_
 refine cr ?_
 refine ls (op (p_asg rfl) rfl) ?_
 refine ln ?_
 refine nthen ?_
 refine cs ?_
 refine cr ?_
 refine ls (o_ld Tryd.isAgg39 rfl (by repeat' constructor) (by repeat' constructor) rfl) ?_
 refine ls (op (p_move rfl) rfl) ?_
 refine ls (o_call (is := [2, 2]) Tryd.call35 (c_tGet p b T hT s) rfl rfl (by repeat' (first | constructor | apply Sub.suf)) rfl) ?_
 refine le ?_; rintro ⟨A10, c10⟩
 refine ls (op (p_move rfl) rfl) ?_
 refine ls (op (p_ext rfl (by repeat' constructor)) rfl) ?_
 refine ls (op (p_ext rfl (by repeat' constructor)) rfl) ?_
 refine ls (op (p_asg rfl) rfl) ?_
 refine ls (op (p_asg rfl) rfl) ?_
 refine ln ?_
 refine nthen ?_
 refine cs ?_
 refine cr ?_
 refine ls (op (p_move rfl) rfl) ?_
 refine ls (o_ld Tryd.isAgg4 rfl (by repeat' constructor) (by repeat' constructor) rfl) ?_
 refine ls (op (p_bne Tryd.underlying4 rfl rfl) rfl) ?_
 refine ls (op (p_asg rfl) rfl) ?_
 refine ln ?_
 refine nthen ?_
 refine cret ?_
 refine xret (fun _ _ h => h) ?_
 refine rret (is := [3, 3, 1, 1]) () (Or.inl rfl) (Res.t rfl Res.d) (rfl) rfl (by repeat' (first | constructor | apply Sub.suf))

set_option maxRecDepth 100000 in
theorem c_files (p b : Nat) (T : List File) (p2 b2 : Nat) (U : List File) (hT : Tfit T) (hn : T.length ≤ 2000000) (hU : Tfit U) (hn2 : U.length ≤ 2000000) (both : Bool) : Con Tryd.prog 34 [.pointer (some ⟨p, 0, none⟩), .pointer (some ⟨p2, 0, none⟩), .bool both] [box p 75 [.map (some b)], tr b T, box p2 75 [.map (some b2)], tr b2 U] [] (Option Addr × Nat) (fun y => .slice y.1 (filesT T U both).length y.2) (fun _ => [box p 75 [.map (some b)], tr b T, box p2 75 [.map (some b2)], tr b2 U]) (fun y => [slA y.1 (filesT T U both)]) := by
 refine con Tryd.func34 rfl Tryd.ntmps34 rfl ?_
 intro M0 F0 w0
 refine cs ?_
 refine cr ?_
 refine ls (o_box rfl rfl rfl) ?_
 refine le ?_; intro b4
 refine ls (o_box rfl rfl rfl) ?_
 refine le ?_; intro b5
 refine ls (op (p_asg rfl) rfl) ?_
 refine ln ?_
 refine nthen ?_
 refine cs ?_
 refine cr ?_
 refine ls (op (p_move rfl) rfl) ?_
 refine ls (o_call (is := [2, 2]) Tryd.call52 (c_tNames p b T hn) rfl rfl (by repeat' (first | constructor | apply Sub.suf)) rfl) ?_
 refine le ?_; rintro ⟨A8, c8⟩
 refine lmono (fun a w h => stBun (is := [4, 3, 3, 3]) (Γ1 := []) rfl Sub.d h) ?_
 refine fixL (slen (m' := (T.map (·.1)).length) (by rw [List.length_map])) ?_
 refine ls (op (p_mkf rfl) rfl) ?_
 refine ls (o_call (is := [1, 0]) Tryd.call55 (c_DeleteFunc (T.map (·.1)) A8 c8 (by rw [List.length_map]; exact hn) (fun s => !(hasT U s == both)) 56 [.pointer (some ⟨b4, 0, none⟩), .pointer (some ⟨b5, 0, none⟩)] [] (bun [box b4 39 [.pointer (some ⟨p2, 0, none⟩)], box b5 4 [.bool both], box p2 75 [.map (some b2)], tr b2 U] []) Tryd.call56 (fun s => con_bun (Ξ0 := []) (Ξo := fun _ => []) (c_files1 s b4 b5 p2 b2 U hU both))) rfl rfl (by repeat' (first | constructor | apply Sub.suf)) rfl) ?_
 refine le ?_; intro x10
 refine lmono (fun a w h => stUnbun (i := 1) rfl h) ?_
 refine ls (op (p_asg rfl) rfl) ?_
 refine ln ?_
 refine nthen ?_
 refine cret ?_
 refine xret (fun _ _ h => h) ?_
 refine nmono (fun a w h => Go.Sx.freeze (i := 4) rfl h) ?_
 refine rret (is := [4, 4, 2, 2]) (A8, c8) (Or.inl rfl) (Res.t rfl Res.d) (rfl) rfl (by repeat' (first | constructor | apply Sub.suf))

set_option maxRecDepth 100000 in
theorem c_dTrees (p b : Nat) (T : List File) (hT : Tfit T) (hn : T.length ≤ 2000000) (hST : Sor T) (p2 b2 : Nat) (U : List File) (hU : Tfit U) (hn2 : U.length ≤ 2000000) (hSU : Sor U) : Con Tryd.prog 19 [.pointer (some ⟨p, 0, none⟩), .pointer (some ⟨p2, 0, none⟩)] [box p 75 [.map (some b)], tr b T, box p2 75 [.map (some b2)], tr b2 U] [] (Option Addr × Nat) (fun x => .slice x.1 (treesT T U).length x.2) (fun x => [row 51 x.1 x.2 (treesT T U), box p 75 [.map (some b)], tr b T, box p2 75 [.map (some b2)], tr b2 U]) (fun _ => []) := by
 refine con Tryd.func19 rfl Tryd.ntmps19 rfl ?_
 intro M0 F0 w0
 refine cs ?_
 refine cr ?_
 refine ls (op (p_asg rfl) rfl) ?_
 refine ln ?_
 refine nthen ?_
 refine cs ?_
 refine cs ?_
 refine cr ?_
 refine ls (op (p_move rfl) rfl) ?_
 refine ls (op (p_ptrnil Tryd.underlying39 rfl rfl) rfl) ?_
 refine ln ?_
 refine nthen ?_
 refine cc rfl (fun h => by cases h) (fun h => ?_)
 refine cskip ?_
 refine nthen ?_
 refine cs ?_
 refine cs ?_
 refine cr ?_
 refine ls (op (p_move rfl) rfl) ?_
 refine ls (op (p_ptrnil Tryd.underlying39 rfl rfl) rfl) ?_
 refine ln ?_
 refine nthen ?_
 refine cc rfl (fun h => by cases h) (fun h => ?_)
 refine cskip ?_
 refine nthen ?_
 refine cs ?_
 refine cs ?_
 refine cr ?_
 refine ls (op (p_move rfl) rfl) ?_
 refine ls (o_call (is := [0, 0]) Tryd.call33 (c_wide p b T hT hn) rfl rfl (by repeat' (first | constructor | apply Sub.suf)) rfl) ?_
 refine le ?_; intro x27
 refine ls (op (p_move rfl) rfl) ?_
 refine orX 3 28 31 rfl (subσ.cons (t := 0) rfl (subσ.cons (t := 1) rfl (subσ.cons (t := 4) rfl (subσ.cons (t := 20) rfl (subσ.cons (t := 21) rfl (subσ.cons (t := 23) rfl (subσ.cons (t := 24) rfl (subσ.nil _)))))))) ?_ ?_
 ·
  intro h28
  refine lskip rfl rfl rfl rfl rfl ?_
  refine lskip rfl rfl rfl rfl rfl ?_
  refine ls (op (p_pickt rfl rfl) rfl) ?_
  refine ln (nmid (wk0 (by repeat (first | exact subσ.nil _ | refine subσ.cons rfl ?_)) (by repeat' (first | constructor | apply Sub.suf))))
 apply exI
 ·
  intro h28
  refine lwant rfl rfl rfl rfl (op (p_move rfl) rfl) ?_
  refine lwant rfl rfl rfl rfl (o_call (is := [2, 2]) Tryd.call33 (c_wide p2 b2 U hU hn2) rfl rfl (by repeat' (first | constructor | apply Sub.suf)) rfl) ?_
  refine le ?_; intro x30
  refine lmono (fun a w h => stPerm (is := [2, 2]) rfl h) ?_
  refine ls (op (p_pickf rfl rfl) rfl) ?_
  refine ln (nmid (wk0 (by repeat (first | exact subσ.nil _ | refine subσ.cons rfl ?_)) (by repeat' (first | constructor | apply Sub.suf))))
 ·
  refine ln ?_
  refine nthen ?_
  refine cc rfl ?_ ?_
  ·
   intro h31
   have hw : (wideB T || wideB U) = true := h31
   refine cs ?_
   refine cmono (fun a w h => nilRow (α := Prim) 51 h) ?_
   refine cmono (fun a w h => rowEq (α := Prim) (by repeat' constructor) ((treesT_yes hw).symm) (by repeat' constructor) h) ?_
   refine cr ?_
   refine ls (op (p_asg rfl) rfl) ?_
   refine ln ?_
   refine nthen ?_
   refine cret ?_
   refine xret (fun _ _ h => h) ?_
   refine rret (is := [0, 0, 0, 0, 0]) (none, 0) (Or.inl rfl) (Res.t rfl Res.d) ?_ rfl (by repeat' (first | constructor | apply Sub.suf))
   rw [treesT_yes hw]; rfl
  ·
   intro h31
   have hw : (wideB T || wideB U) = false := h31
   obtain ⟨hw1, hw2⟩ := Bool.or_eq_false_iff.1 hw
   have hwT := wide_get hST hw1
   have hwU := wide_get hSU hw2
   refine cskip ?_
   refine nthen ?_
   refine cs ?_
   refine cr ?_
   refine ls (op (p_asg rfl) rfl) ?_
   refine ln ?_
   refine nthen ?_
   refine cs ?_
   refine cs ?_
   refine cmono (fun a w h => nilRow (α := Prim) 51 h) ?_
   refine cr ?_
   refine ls (op (p_move rfl) rfl) ?_
   refine ls (op (p_move rfl) rfl) ?_
   refine ls (o_call (is := [1, 1, 1, 1]) Tryd.call34 (c_files p b T p2 b2 U hT hn hU hn2 false) rfl rfl (by repeat' (first | constructor | apply Sub.suf)) rfl) ?_
   refine le ?_; rintro ⟨A34, c34⟩
   refine ls (op (p_lenl rfl Tryd.underlying22) rfl) ?_
   refine ls (op (p_move rfl) rfl) ?_
   refine ln ?_
   refine nthen ?_
   refine cb ?_
   refine cl (ι := {q : Nat × Option Addr × Nat // q.1 ≤ (filesT T U false).length}) (fun i => St M0 F0 w0 108 [(0, .pointer (some ⟨p, 0, none⟩)), (1, .pointer (some ⟨p2, 0, none⟩)), (5, .slice i.1.2.1 (((filesT T U false).take (i.1.1)).flatMap (goneT T)).length i.1.2.2), (34, .slice A34 (filesT T U false).length c34), (35, .int .i64 (((filesT T U false).length : Nat) : Int)), (36, .int .i64 ((i.1.1 : Nat) : Int))] [row 51 (i.1.2.1) (i.1.2.2) (((filesT T U false).take (i.1.1)).flatMap (goneT T)), box p 75 [.map (some b)], tr b T, box p2 75 [.map (some b2)], tr b2 U] [slA A34 (filesT T U false)]) (fun i => (filesT T U false).length - i.1.1) ⟨(0, none, 0), Nat.zero_le _⟩ (wk (is := [4, 0, 0, 0, 0]) (by repeat (first | exact subσ.nil _ | refine subσ.cons rfl ?_)) rfl (by repeat' (first | constructor | apply Sub.suf))) ?_
   rintro ⟨⟨k, A5, c5⟩, hk⟩
   refine cmono (S' := St M0 F0 w0 108 [(0, .pointer (some ⟨p, 0, none⟩)), (1, .pointer (some ⟨p2, 0, none⟩)), (5, .slice A5 (((filesT T U false).take (k)).flatMap (goneT T)).length c5), (34, .slice A34 (filesT T U false).length c34), (35, .int .i64 (((filesT T U false).length : Nat) : Int)), (36, .int .i64 ((k : Nat) : Int))] [row 51 (A5) (c5) (((filesT T U false).take (k)).flatMap (goneT T)), box p 75 [.map (some b)], tr b T, box p2 75 [.map (some b2)], tr b2 U] [slA A34 (filesT T U false)]) (fun _ _ h => h) ?_
   refine cs ?_
   refine cr ?_
   refine ls (op (p_icmp rfl rfl rfl) rfl) ?_
   refine ln ?_
   refine nthen ?_
   refine cs ?_
   refine cc rfl ?_ ?_
   ·
    intro h37
    dsimp only at hk
    try simp only [decide_eq_true_eq, decide_eq_false_iff_not, Bool.not_eq_true', Bool.not_eq_false', Int.not_lt, Int.not_le, ge_iff_le, Bool.not_true, Bool.not_false] at h37
    have hk1 : k < (filesT T U false).length := by omega
    have hb1 := fm_len (goneT_len T) (filesT T U false)
    have hb2 := fm_len (comeT_len U) (filesT U T false)
    have hb3 := fm_len (bothT_len T U) ((filesT T U true).take k)
    have hb4 := fm_len (goneT_len T) ((filesT T U false).take k)
    have hb5 := fm_len (comeT_len U) ((filesT U T false).take k)
    have hf1 := filesT_len T U false
    have hf2 := filesT_len U T false
    have hf3 := filesT_len T U true
    have ht1 := List.length_take_le k (filesT T U false)
    have ht2 := List.length_take_le k (filesT U T false)
    have ht3 := List.length_take_le k (filesT T U true)
    refine cskip ?_
    refine nthen ?_
    refine cs ?_
    refine cb ?_
    refine cs ?_
    refine elC (A := A34) (l := filesT T U false) (by repeat' constructor) k (List.getElem?_eq_getElem hk1) ?_; rintro zbp zop zyp hAp
    refine cr ?_
    refine ls (op (p_ia k hAp hk1 rfl Tryd.underlying22 Tryd.sizeOf9 rfl rfl) rfl) ?_
    refine ls (o_ldi Tryd.isAgg9 rfl (by repeat' constructor) 0 rfl (by repeat (first | exact Cut.d | apply Cut.t | apply Cut.s)) rfl) ?_
    refine ls (op (p_asg rfl) rfl) ?_
    refine ln ?_
    refine nthen ?_
    refine cs ?_
    refine cr ?_
    refine ls (op (p_move rfl) rfl) ?_
    refine ls (op (p_move rfl) rfl) ?_
    refine ls (o_call (is := [1, 1]) Tryd.call35 (c_tGet p b T hT (filesT T U false)[k]) rfl rfl (by repeat' (first | constructor | apply Sub.suf)) rfl) ?_
    refine le ?_; rintro ⟨A43, c43⟩
    refine lmono (fun a w h => freezeN (i := 0) rfl h) ?_
    refine lpure (St.cap (m := (getL T (filesT T U false)[k]).length) (c := c43) (by repeat' constructor)) ?_
    intro hcap43
    refine ls (op (p_move rfl) rfl) ?_
    refine ls (op (p_ext rfl (by repeat' constructor)) rfl) ?_
    refine ls (op (p_ext rfl (by repeat' constructor)) rfl) ?_
    refine ls (op (p_asg rfl) rfl) ?_
    refine ls (op (p_asg rfl) rfl) ?_
    refine ln ?_
    refine nthen ?_
    refine cmono (fun a w h => nilSl (α := ByteArray) h) ?_
    refine cr ?_
    refine ls (op (p_move rfl) rfl) ?_
    refine ls (op (p_move rfl) rfl) ?_
    refine ls (op (p_move rfl) rfl) ?_
    refine ls (o_call (is := []) Tryd.call14 (c_dLines (filesT T U false)[k] (getL T (filesT T U false)[k]) [] A43 none c43 0 (by have := hwT (filesT T U false)[k]; omega) (Nat.zero_le _) hcap43 (Nat.le_refl _)) rfl rfl (by repeat' (first | constructor | apply Sub.suf)) rfl) ?_
    refine le ?_; rintro ⟨A49, c49⟩
    refine lmono (fun a w h => freezeN (i := 0) rfl h) ?_
    refine lpure (St.nil (y := (A49, c49)) (by repeat' constructor)) ?_
    intro hn49
    refine ls (o_app (is := [2]) Tryd.underlying34 inf51 rfl (by decide) (by decide) rfl rfl (by (try simp only [List.length_append, List.length_cons, List.length_nil]); have hll := linesT_len ((filesT T U false)[k]) (getL T (filesT T U false)[k]) ([]); omega) (fun _ h => hn49 h) rfl (by repeat' (first | constructor | apply Sub.suf)) rfl) ?_
    refine le ?_; rintro ⟨A50, c50⟩
    refine ls (op (p_move rfl) rfl) ?_
    refine ls (op (p_bld sb51 rfl (Fill.t (by repeat' constructor) rfl rfl (by repeat' constructor) (Fill.t (by repeat' constructor) rfl rfl (by repeat' constructor) Fill.d))) rfl) ?_
    refine ls (o_bsl [pRm (filesT T U false)[k]] Tryd.underlying34 Tryd.sizeOf51 Tryd.zeroValue51 rfl (Enum.t Enum.d) (RV.t ((none, 0), (none, 0)) rfl (by repeat' (first | constructor | apply Sub.suf)) RV.d) rfl (by decide) (by decide) rfl) ?_
    refine le ?_; intro b53
    refine lmono (fun a w h => Go.Sx.freeze (i := 0) rfl h) ?_
    refine ls (o_app (is := [0]) Tryd.underlying34 inf51 rfl (by decide) (by decide) rfl rfl (by (try simp only [List.length_append, List.length_cons, List.length_nil]); have hll := linesT_len ((filesT T U false)[k]) (getL T (filesT T U false)[k]) ([]); omega) (fun h => by cases h) rfl (by repeat' (first | constructor | apply Sub.suf)) rfl) ?_
    refine le ?_; rintro ⟨A54, c54⟩
    refine ls (op (p_asg rfl) rfl) ?_
    refine ln ?_
    refine nblock ?_
    refine nthen ?_
    refine cr ?_
    refine ls (op (p_add rfl rfl (by omega)) rfl) ?_
    refine ls (op (p_move rfl) rfl) ?_
    refine ln ?_
    refine nnext ⟨(k + 1, A54, c54), hk1⟩ (by dsimp only; omega) (fun a w h => by dsimp only; rw [fm_take hk1, show goneT T (filesT T U false)[k] = linesT (filesT T U false)[k] (getL T (filesT T U false)[k]) [] ++ [pRm (filesT T U false)[k]] from rfl, ← List.append_assoc]; exact wk (is := [0, 0, 0, 0, 0]) (by repeat (first | exact subσ.nil _ | refine subσ.cons rfl ?_)) rfl (by repeat' (first | constructor | apply Sub.suf)) a w h)
   ·
    intro h37
    dsimp only at hk
    try simp only [decide_eq_true_eq, decide_eq_false_iff_not, Bool.not_eq_true', Bool.not_eq_false', Int.not_lt, Int.not_le, ge_iff_le, Bool.not_true, Bool.not_false] at h37
    obtain rfl : k = (filesT T U false).length := by omega
    rw [List.take_length]
    refine cexit ?_
    refine xthen ?_
    refine xthen ?_
    refine xblock ?_
    refine nthen ?_
    refine cs ?_
    refine cs ?_
    refine cr ?_
    refine ls (op (p_move rfl) rfl) ?_
    refine ls (op (p_move rfl) rfl) ?_
    refine ls (o_call (is := [3, 3, 1, 1]) Tryd.call34 (c_files p2 b2 U p b T hU hn2 hT hn false) rfl rfl (by repeat' (first | constructor | apply Sub.suf)) rfl) ?_
    refine le ?_; rintro ⟨A58, c58⟩
    refine ls (op (p_lenl rfl Tryd.underlying22) rfl) ?_
    refine ls (op (p_move rfl) rfl) ?_
    refine ln ?_
    refine nthen ?_
    refine cb ?_
    refine cl (ι := {q : Nat × Option Addr × Nat // q.1 ≤ (filesT U T false).length}) (fun i => St M0 F0 w0 108 [(0, .pointer (some ⟨p, 0, none⟩)), (1, .pointer (some ⟨p2, 0, none⟩)), (5, .slice i.1.2.1 ((filesT T U false).flatMap (goneT T) ++ ((filesT U T false).take (i.1.1)).flatMap (comeT U)).length i.1.2.2), (58, .slice A58 (filesT U T false).length c58), (59, .int .i64 (((filesT U T false).length : Nat) : Int)), (60, .int .i64 ((i.1.1 : Nat) : Int))] [row 51 (i.1.2.1) (i.1.2.2) ((filesT T U false).flatMap (goneT T) ++ ((filesT U T false).take (i.1.1)).flatMap (comeT U)), box p 75 [.map (some b)], tr b T, box p2 75 [.map (some b2)], tr b2 U] [slA A58 (filesT U T false)]) (fun i => (filesT U T false).length - i.1.1) ⟨(0, A5, c5), Nat.zero_le _⟩ ((fun a w h => by dsimp only; rw [List.take_zero, List.flatMap_nil, List.append_nil]; exact wk (is := [4, 2, 2, 0, 0]) (by repeat (first | exact subσ.nil _ | refine subσ.cons rfl ?_)) rfl (by repeat' (first | constructor | apply Sub.suf)) a w h)) ?_
    rintro ⟨⟨k, A5, c5⟩, hk⟩
    refine cmono (S' := St M0 F0 w0 108 [(0, .pointer (some ⟨p, 0, none⟩)), (1, .pointer (some ⟨p2, 0, none⟩)), (5, .slice A5 ((filesT T U false).flatMap (goneT T) ++ ((filesT U T false).take (k)).flatMap (comeT U)).length c5), (58, .slice A58 (filesT U T false).length c58), (59, .int .i64 (((filesT U T false).length : Nat) : Int)), (60, .int .i64 ((k : Nat) : Int))] [row 51 (A5) (c5) ((filesT T U false).flatMap (goneT T) ++ ((filesT U T false).take (k)).flatMap (comeT U)), box p 75 [.map (some b)], tr b T, box p2 75 [.map (some b2)], tr b2 U] [slA A58 (filesT U T false)]) (fun _ _ h => h) ?_
    refine cs ?_
    refine cr ?_
    refine ls (op (p_icmp rfl rfl rfl) rfl) ?_
    refine ln ?_
    refine nthen ?_
    refine cs ?_
    refine cc rfl ?_ ?_
    ·
     intro h61
     dsimp only at hk
     try simp only [decide_eq_true_eq, decide_eq_false_iff_not, Bool.not_eq_true', Bool.not_eq_false', Int.not_lt, Int.not_le, ge_iff_le, Bool.not_true, Bool.not_false] at h61
     have hk1 : k < (filesT U T false).length := by omega
     have hb1 := fm_len (goneT_len T) (filesT T U false)
     have hb2 := fm_len (comeT_len U) (filesT U T false)
     have hb3 := fm_len (bothT_len T U) ((filesT T U true).take k)
     have hb4 := fm_len (goneT_len T) ((filesT T U false).take k)
     have hb5 := fm_len (comeT_len U) ((filesT U T false).take k)
     have hf1 := filesT_len T U false
     have hf2 := filesT_len U T false
     have hf3 := filesT_len T U true
     have ht1 := List.length_take_le k (filesT T U false)
     have ht2 := List.length_take_le k (filesT U T false)
     have ht3 := List.length_take_le k (filesT T U true)
     refine cskip ?_
     refine nthen ?_
     refine cs ?_
     refine cb ?_
     refine cs ?_
     refine elC (A := A58) (l := filesT U T false) (by repeat' constructor) k (List.getElem?_eq_getElem hk1) ?_; rintro zbp zop zyp hAp
     refine cr ?_
     refine ls (op (p_ia k hAp hk1 rfl Tryd.underlying22 Tryd.sizeOf9 rfl rfl) rfl) ?_
     refine ls (o_ldi Tryd.isAgg9 rfl (by repeat' constructor) 0 rfl (by repeat (first | exact Cut.d | apply Cut.t | apply Cut.s)) rfl) ?_
     refine ls (op (p_asg rfl) rfl) ?_
     refine ln ?_
     refine nthen ?_
     refine cs ?_
     refine cr ?_
     refine ls (op (p_move rfl) rfl) ?_
     refine ls (op (p_move rfl) rfl) ?_
     refine ls (o_call (is := [3, 3]) Tryd.call35 (c_tGet p2 b2 U hU (filesT U T false)[k]) rfl rfl (by repeat' (first | constructor | apply Sub.suf)) rfl) ?_
     refine le ?_; rintro ⟨A67, c67⟩
     refine lmono (fun a w h => freezeN (i := 0) rfl h) ?_
     refine lpure (St.cap (m := (getL U (filesT U T false)[k]).length) (c := c67) (by repeat' constructor)) ?_
     intro hcap67
     refine ls (op (p_move rfl) rfl) ?_
     refine ls (op (p_ext rfl (by repeat' constructor)) rfl) ?_
     refine ls (op (p_ext rfl (by repeat' constructor)) rfl) ?_
     refine ls (op (p_asg rfl) rfl) ?_
     refine ls (op (p_asg rfl) rfl) ?_
     refine ln ?_
     refine nthen ?_
     refine cmono (fun a w h => nilSl (α := ByteArray) h) ?_
     refine cr ?_
     refine ls (op (p_move rfl) rfl) ?_
     refine ls (op (p_move rfl) rfl) ?_
     refine ls (op (p_bld sb51 rfl (Fill.t (by repeat' constructor) rfl rfl (by repeat' constructor) (Fill.t (by repeat' constructor) rfl rfl (by repeat' constructor) Fill.d))) rfl) ?_
     refine ls (o_bsl [pAd (filesT U T false)[k]] Tryd.underlying34 Tryd.sizeOf51 Tryd.zeroValue51 rfl (Enum.t Enum.d) (RV.t ((none, 0), (none, 0)) rfl (by repeat' (first | constructor | apply Sub.suf)) RV.d) rfl (by decide) (by decide) rfl) ?_
     refine le ?_; intro b73
     refine lmono (fun a w h => Go.Sx.freeze (i := 0) rfl h) ?_
     refine ls (o_app (is := [2]) Tryd.underlying34 inf51 rfl (by decide) (by decide) rfl rfl (by (try simp only [List.length_append, List.length_cons, List.length_nil]); omega) (fun h => by cases h) rfl (by repeat' (first | constructor | apply Sub.suf)) rfl) ?_
     refine le ?_; rintro ⟨A74, c74⟩
     refine ls (op (p_move rfl) rfl) ?_
     refine ls (op (p_move rfl) rfl) ?_
     refine ls (o_call (is := []) Tryd.call14 (c_dLines (filesT U T false)[k] [] (getL U (filesT U T false)[k]) none A67 0 c67 (Nat.zero_le _) (by have := hwU (filesT U T false)[k]; omega) (Nat.le_refl _) hcap67) rfl rfl (by repeat' (first | constructor | apply Sub.suf)) rfl) ?_
     refine le ?_; rintro ⟨A77, c77⟩
     refine lmono (fun a w h => freezeN (i := 0) rfl h) ?_
     refine lpure (St.nil (y := (A77, c77)) (by repeat' constructor)) ?_
     intro hn77
     refine ls (o_app (is := [0]) Tryd.underlying34 inf51 rfl (by decide) (by decide) rfl rfl (by (try simp only [List.length_append, List.length_cons, List.length_nil]); have hll := linesT_len ((filesT U T false)[k]) ([]) (getL U (filesT U T false)[k]); omega) (fun _ h => hn77 h) rfl (by repeat' (first | constructor | apply Sub.suf)) rfl) ?_
     refine le ?_; rintro ⟨A78, c78⟩
     refine ls (op (p_asg rfl) rfl) ?_
     refine ln ?_
     refine nblock ?_
     refine nthen ?_
     refine cr ?_
     refine ls (op (p_add rfl rfl (by omega)) rfl) ?_
     refine ls (op (p_move rfl) rfl) ?_
     refine ln ?_
     refine nnext ⟨(k + 1, A78, c78), hk1⟩ (by dsimp only; omega) (fun a w h => by dsimp only; rw [fm_take hk1, show comeT U (filesT U T false)[k] = [pAd (filesT U T false)[k]] ++ linesT (filesT U T false)[k] [] (getL U (filesT U T false)[k]) from rfl, ← List.append_assoc, ← List.append_assoc]; exact wk (is := [0, 2, 2, 0, 0]) (by repeat (first | exact subσ.nil _ | refine subσ.cons rfl ?_)) rfl (by repeat' (first | constructor | apply Sub.suf)) a w h)
    ·
     intro h61
     dsimp only at hk
     try simp only [decide_eq_true_eq, decide_eq_false_iff_not, Bool.not_eq_true', Bool.not_eq_false', Int.not_lt, Int.not_le, ge_iff_le, Bool.not_true, Bool.not_false] at h61
     obtain rfl : k = (filesT U T false).length := by omega
     rw [List.take_length]
     refine cexit ?_
     refine xthen ?_
     refine xthen ?_
     refine xblock ?_
     refine nthen ?_
     refine cs ?_
     refine cs ?_
     refine cr ?_
     refine ls (op (p_move rfl) rfl) ?_
     refine ls (op (p_move rfl) rfl) ?_
     refine ls (o_call (is := [1, 1, 1, 1]) Tryd.call34 (c_files p b T p2 b2 U hT hn hU hn2 true) rfl rfl (by repeat' (first | constructor | apply Sub.suf)) rfl) ?_
     refine le ?_; rintro ⟨A82, c82⟩
     refine ls (op (p_lenl rfl Tryd.underlying22) rfl) ?_
     refine ls (op (p_move rfl) rfl) ?_
     refine ln ?_
     refine nthen ?_
     refine cb ?_
     refine cl (ι := {q : Nat × Option Addr × Nat // q.1 ≤ (filesT T U true).length}) (fun i => St M0 F0 w0 108 [(0, .pointer (some ⟨p, 0, none⟩)), (1, .pointer (some ⟨p2, 0, none⟩)), (5, .slice i.1.2.1 (((filesT T U false).flatMap (goneT T) ++ (filesT U T false).flatMap (comeT U)) ++ ((filesT T U true).take (i.1.1)).flatMap (bothT T U)).length i.1.2.2), (82, .slice A82 (filesT T U true).length c82), (83, .int .i64 (((filesT T U true).length : Nat) : Int)), (84, .int .i64 ((i.1.1 : Nat) : Int))] [row 51 (i.1.2.1) (i.1.2.2) (((filesT T U false).flatMap (goneT T) ++ (filesT U T false).flatMap (comeT U)) ++ ((filesT T U true).take (i.1.1)).flatMap (bothT T U)), box p 75 [.map (some b)], tr b T, box p2 75 [.map (some b2)], tr b2 U] [slA A82 (filesT T U true)]) (fun i => (filesT T U true).length - i.1.1) ⟨(0, A5, c5), Nat.zero_le _⟩ ((fun a w h => by dsimp only; rw [List.take_zero, List.flatMap_nil, List.append_nil]; exact wk (is := [4, 0, 0, 0, 0]) (by repeat (first | exact subσ.nil _ | refine subσ.cons rfl ?_)) rfl (by repeat' (first | constructor | apply Sub.suf)) a w h)) ?_
     rintro ⟨⟨k, A5, c5⟩, hk⟩
     refine cmono (S' := St M0 F0 w0 108 [(0, .pointer (some ⟨p, 0, none⟩)), (1, .pointer (some ⟨p2, 0, none⟩)), (5, .slice A5 (((filesT T U false).flatMap (goneT T) ++ (filesT U T false).flatMap (comeT U)) ++ ((filesT T U true).take (k)).flatMap (bothT T U)).length c5), (82, .slice A82 (filesT T U true).length c82), (83, .int .i64 (((filesT T U true).length : Nat) : Int)), (84, .int .i64 ((k : Nat) : Int))] [row 51 (A5) (c5) (((filesT T U false).flatMap (goneT T) ++ (filesT U T false).flatMap (comeT U)) ++ ((filesT T U true).take (k)).flatMap (bothT T U)), box p 75 [.map (some b)], tr b T, box p2 75 [.map (some b2)], tr b2 U] [slA A82 (filesT T U true)]) (fun _ _ h => h) ?_
     refine cs ?_
     refine cr ?_
     refine ls (op (p_icmp rfl rfl rfl) rfl) ?_
     refine ln ?_
     refine nthen ?_
     refine cs ?_
     refine cc rfl ?_ ?_
     ·
      intro h85
      dsimp only at hk
      try simp only [decide_eq_true_eq, decide_eq_false_iff_not, Bool.not_eq_true', Bool.not_eq_false', Int.not_lt, Int.not_le, ge_iff_le, Bool.not_true, Bool.not_false] at h85
      have hk1 : k < (filesT T U true).length := by omega
      have hb1 := fm_len (goneT_len T) (filesT T U false)
      have hb2 := fm_len (comeT_len U) (filesT U T false)
      have hb3 := fm_len (bothT_len T U) ((filesT T U true).take k)
      have hb4 := fm_len (goneT_len T) ((filesT T U false).take k)
      have hb5 := fm_len (comeT_len U) ((filesT U T false).take k)
      have hf1 := filesT_len T U false
      have hf2 := filesT_len U T false
      have hf3 := filesT_len T U true
      have ht1 := List.length_take_le k (filesT T U false)
      have ht2 := List.length_take_le k (filesT U T false)
      have ht3 := List.length_take_le k (filesT T U true)
      refine cskip ?_
      refine nthen ?_
      refine cs ?_
      refine cb ?_
      refine cs ?_
      refine elC (A := A82) (l := filesT T U true) (by repeat' constructor) k (List.getElem?_eq_getElem hk1) ?_; rintro zbp zop zyp hAp
      refine cr ?_
      refine ls (op (p_ia k hAp hk1 rfl Tryd.underlying22 Tryd.sizeOf9 rfl rfl) rfl) ?_
      refine ls (o_ldi Tryd.isAgg9 rfl (by repeat' constructor) 0 rfl (by repeat (first | exact Cut.d | apply Cut.t | apply Cut.s)) rfl) ?_
      refine ls (op (p_asg rfl) rfl) ?_
      refine ln ?_
      refine nthen ?_
      refine cs ?_
      refine cr ?_
      refine ls (op (p_move rfl) rfl) ?_
      refine ls (op (p_move rfl) rfl) ?_
      refine ls (o_call (is := [1, 1]) Tryd.call35 (c_tGet p b T hT (filesT T U true)[k]) rfl rfl (by repeat' (first | constructor | apply Sub.suf)) rfl) ?_
      refine le ?_; rintro ⟨A91, c91⟩
      refine lmono (fun a w h => freezeN (i := 0) rfl h) ?_
      refine lpure (St.cap (m := (getL T (filesT T U true)[k]).length) (c := c91) (by repeat' constructor)) ?_
      intro hcap91
      refine ls (op (p_move rfl) rfl) ?_
      refine ls (op (p_ext rfl (by repeat' constructor)) rfl) ?_
      refine ls (op (p_ext rfl (by repeat' constructor)) rfl) ?_
      refine ls (op (p_asg rfl) rfl) ?_
      refine ls (op (p_asg rfl) rfl) ?_
      refine ln ?_
      refine nthen ?_
      refine cs ?_
      refine cr ?_
      refine ls (op (p_move rfl) rfl) ?_
      refine ls (op (p_move rfl) rfl) ?_
      refine ls (o_call (is := [3, 3]) Tryd.call35 (c_tGet p2 b2 U hU (filesT T U true)[k]) rfl rfl (by repeat' (first | constructor | apply Sub.suf)) rfl) ?_
      refine le ?_; rintro ⟨A97, c97⟩
      refine lmono (fun a w h => freezeN (i := 0) rfl h) ?_
      refine lpure (St.cap (m := (getL U (filesT T U true)[k]).length) (c := c97) (by repeat' constructor)) ?_
      intro hcap97
      refine ls (op (p_move rfl) rfl) ?_
      refine ls (op (p_ext rfl (by repeat' constructor)) rfl) ?_
      refine ls (op (p_ext rfl (by repeat' constructor)) rfl) ?_
      refine ls (op (p_asg rfl) rfl) ?_
      refine ls (op (p_asg rfl) rfl) ?_
      refine ln ?_
      refine nthen ?_
      refine cr ?_
      refine ls (op (p_move rfl) rfl) ?_
      refine ls (op (p_move rfl) rfl) ?_
      refine ls (op (p_move rfl) rfl) ?_
      refine ls (op (p_move rfl) rfl) ?_
      refine ls (o_call (is := []) Tryd.call14 (c_dLines (filesT T U true)[k] (getL T (filesT T U true)[k]) (getL U (filesT T U true)[k]) A91 A97 c91 c97 (by have := hwT (filesT T U true)[k]; omega) (by have := hwU (filesT T U true)[k]; omega) hcap91 hcap97) rfl rfl (by repeat' (first | constructor | apply Sub.suf)) rfl) ?_
      refine le ?_; rintro ⟨A104, c104⟩
      refine lmono (fun a w h => freezeN (i := 0) rfl h) ?_
      refine lpure (St.nil (y := (A104, c104)) (by repeat' constructor)) ?_
      intro hn104
      refine ls (o_app (is := [4]) Tryd.underlying34 inf51 rfl (by decide) (by decide) rfl rfl (by (try simp only [List.length_append, List.length_cons, List.length_nil]); have hll := linesT_len ((filesT T U true)[k]) (getL T (filesT T U true)[k]) (getL U (filesT T U true)[k]); omega) (fun _ h => hn104 h) rfl (by repeat' (first | constructor | apply Sub.suf)) rfl) ?_
      refine le ?_; rintro ⟨A105, c105⟩
      refine ls (op (p_asg rfl) rfl) ?_
      refine ln ?_
      refine nblock ?_
      refine nthen ?_
      refine cr ?_
      refine ls (op (p_add rfl rfl (by omega)) rfl) ?_
      refine ls (op (p_move rfl) rfl) ?_
      refine ln ?_
      refine nnext ⟨(k + 1, A105, c105), hk1⟩ (by dsimp only; omega) (fun a w h => by dsimp only; rw [fm_take hk1, show bothT T U (filesT T U true)[k] = linesT (filesT T U true)[k] (getL T (filesT T U true)[k]) (getL U (filesT T U true)[k]) from rfl, ← List.append_assoc]; exact wk (is := [0, 2, 2, 0, 0]) (by repeat (first | exact subσ.nil _ | refine subσ.cons rfl ?_)) rfl (by repeat' (first | constructor | apply Sub.suf)) a w h)
     ·
      intro h85
      dsimp only at hk
      try simp only [decide_eq_true_eq, decide_eq_false_iff_not, Bool.not_eq_true', Bool.not_eq_false', Int.not_lt, Int.not_le, ge_iff_le, Bool.not_true, Bool.not_false] at h85
      obtain rfl : k = (filesT T U true).length := by omega
      rw [List.take_length]
      refine cexit ?_
      refine xthen ?_
      refine xthen ?_
      refine xblock ?_
      refine nthen ?_
      refine cs ?_
      refine cmono (fun a w h => rowEq (α := Prim) (by repeat' constructor) ((treesT_no hw).symm) (by repeat' constructor) h) ?_
      refine cr ?_
      refine ls (op (p_move rfl) rfl) ?_
      refine ls (op (p_asg rfl) rfl) ?_
      refine ln ?_
      refine nthen ?_
      refine cret ?_
      refine xret (fun _ _ h => h) ?_
      refine rret (is := [0, 0, 0, 0, 0]) (A5, c5) (Or.inl rfl) (Res.t rfl Res.d) ?_ rfl (by repeat' (first | constructor | apply Sub.suf))
      rw [treesT_no hw]; rfl

set_option maxRecDepth 100000 in
theorem c_dTreesN (p2 b2 : Nat) (U : List File) (hU : Tfit U) (hn2 : U.length ≤ 2000000) (hSU : Sor U) : Con Tryd.prog 19 [.pointer none, .pointer (some ⟨p2, 0, none⟩)] [box p2 75 [.map (some b2)], tr b2 U] [] (Option Addr × Nat) (fun x => .slice x.1 (treesT ([] : List File) U).length x.2) (fun x => [row 51 x.1 x.2 (treesT ([] : List File) U), box p2 75 [.map (some b2)], tr b2 U]) (fun _ => []) := by
 have hT : Tfit [] := fun x hx => by cases hx
 have hn : ([] : List File).length ≤ 2000000 := Nat.zero_le _
 have hST : Sor [] := Sor.nil
 refine con Tryd.func19 rfl Tryd.ntmps19 rfl ?_
 intro M0 F0 w0
 refine cs ?_
 refine cr ?_
 refine ls (op (p_asg rfl) rfl) ?_
 refine ln ?_
 refine nthen ?_
 refine cs ?_
 refine cs ?_
 refine cr ?_
 refine ls (op (p_move rfl) rfl) ?_
 refine ls (op (p_ptrnil0 Tryd.underlying39 rfl rfl) rfl) ?_
 refine ln ?_
 refine nthen ?_
 refine cc rfl (fun h => ?_) (fun h => by cases h)
 refine cr ?_
 refine ls (o_call (is := []) Tryd.call24 (c_tNew) rfl rfl (by repeat' (first | constructor | apply Sub.suf)) rfl) ?_
 refine le ?_; rintro ⟨p, b⟩
 refine ls (op (p_asg rfl) rfl) ?_
 refine ln ?_
 refine nthen ?_
 refine cs ?_
 refine cs ?_
 refine cr ?_
 refine ls (op (p_move rfl) rfl) ?_
 refine ls (op (p_ptrnil Tryd.underlying39 rfl rfl) rfl) ?_
 refine ln ?_
 refine nthen ?_
 refine cc rfl (fun h => by cases h) (fun h => ?_)
 refine cskip ?_
 refine nthen ?_
 refine cs ?_
 refine cs ?_
 refine cr ?_
 refine ls (op (p_move rfl) rfl) ?_
 refine ls (o_call (is := [0, 0]) Tryd.call33 (c_wide p b ([] : List File) hT hn) rfl rfl (by repeat' (first | constructor | apply Sub.suf)) rfl) ?_
 refine le ?_; intro x27
 refine ls (op (p_move rfl) rfl) ?_
 refine orX 3 28 31 rfl (subσ.cons (t := 0) rfl (subσ.cons (t := 1) rfl (subσ.cons (t := 4) rfl (subσ.cons (t := 20) rfl (subσ.cons (t := 21) rfl (subσ.cons (t := 22) rfl (subσ.cons (t := 23) rfl (subσ.cons (t := 24) rfl (subσ.nil _))))))))) ?_ ?_
 ·
  intro h28
  refine lskip rfl rfl rfl rfl rfl ?_
  refine lskip rfl rfl rfl rfl rfl ?_
  refine ls (op (p_pickt rfl rfl) rfl) ?_
  refine ln (nmid (wk0 (by repeat (first | exact subσ.nil _ | refine subσ.cons rfl ?_)) (by repeat' (first | constructor | apply Sub.suf))))
 apply exI
 ·
  intro h28
  refine lwant rfl rfl rfl rfl (op (p_move rfl) rfl) ?_
  refine lwant rfl rfl rfl rfl (o_call (is := [2, 2]) Tryd.call33 (c_wide p2 b2 U hU hn2) rfl rfl (by repeat' (first | constructor | apply Sub.suf)) rfl) ?_
  refine le ?_; intro x30
  refine lmono (fun a w h => stPerm (is := [2, 2]) rfl h) ?_
  refine ls (op (p_pickf rfl rfl) rfl) ?_
  refine ln (nmid (wk0 (by repeat (first | exact subσ.nil _ | refine subσ.cons rfl ?_)) (by repeat' (first | constructor | apply Sub.suf))))
 ·
  refine ln ?_
  refine nthen ?_
  refine cc rfl ?_ ?_
  ·
   intro h31
   have hw : (wideB ([] : List File) || wideB U) = true := h31
   refine cs ?_
   refine cmono (fun a w h => nilRow (α := Prim) 51 h) ?_
   refine cmono (fun a w h => rowEq (α := Prim) (by repeat' constructor) ((treesT_yes hw).symm) (by repeat' constructor) h) ?_
   refine cr ?_
   refine ls (op (p_asg rfl) rfl) ?_
   refine ln ?_
   refine nthen ?_
   refine cret ?_
   refine xret (fun _ _ h => h) ?_
   refine rret (is := [0, 2, 2]) (none, 0) (Or.inl rfl) (Res.t rfl Res.d) ?_ rfl (by repeat' (first | constructor | apply Sub.suf))
   rw [treesT_yes hw]; rfl
  ·
   intro h31
   have hw : (wideB ([] : List File) || wideB U) = false := h31
   obtain ⟨hw1, hw2⟩ := Bool.or_eq_false_iff.1 hw
   have hwT := wide_get hST hw1
   have hwU := wide_get hSU hw2
   refine cskip ?_
   refine nthen ?_
   refine cs ?_
   refine cr ?_
   refine ls (op (p_asg rfl) rfl) ?_
   refine ln ?_
   refine nthen ?_
   refine cs ?_
   refine cs ?_
   refine cmono (fun a w h => nilRow (α := Prim) 51 h) ?_
   refine cr ?_
   refine ls (op (p_move rfl) rfl) ?_
   refine ls (op (p_move rfl) rfl) ?_
   refine ls (o_call (is := [1, 1, 1, 1]) Tryd.call34 (c_files p b ([] : List File) p2 b2 U hT hn hU hn2 false) rfl rfl (by repeat' (first | constructor | apply Sub.suf)) rfl) ?_
   refine le ?_; rintro ⟨A34, c34⟩
   refine ls (op (p_lenl rfl Tryd.underlying22) rfl) ?_
   refine ls (op (p_move rfl) rfl) ?_
   refine ln ?_
   refine nthen ?_
   refine cb ?_
   refine cl (ι := {q : Nat × Option Addr × Nat // q.1 ≤ (filesT ([] : List File) U false).length}) (fun i => St M0 F0 w0 108 [(0, .pointer (some ⟨p, 0, none⟩)), (1, .pointer (some ⟨p2, 0, none⟩)), (5, .slice i.1.2.1 (((filesT ([] : List File) U false).take (i.1.1)).flatMap (goneT ([] : List File))).length i.1.2.2), (34, .slice A34 (filesT ([] : List File) U false).length c34), (35, .int .i64 (((filesT ([] : List File) U false).length : Nat) : Int)), (36, .int .i64 ((i.1.1 : Nat) : Int))] [row 51 (i.1.2.1) (i.1.2.2) (((filesT ([] : List File) U false).take (i.1.1)).flatMap (goneT ([] : List File))), box p 75 [.map (some b)], tr b [], box p2 75 [.map (some b2)], tr b2 U] [slA A34 (filesT ([] : List File) U false)]) (fun i => (filesT ([] : List File) U false).length - i.1.1) ⟨(0, none, 0), Nat.zero_le _⟩ (wk (is := [4, 0, 0, 0, 0]) (by repeat (first | exact subσ.nil _ | refine subσ.cons rfl ?_)) rfl (by repeat' (first | constructor | apply Sub.suf))) ?_
   rintro ⟨⟨k, A5, c5⟩, hk⟩
   refine cmono (S' := St M0 F0 w0 108 [(0, .pointer (some ⟨p, 0, none⟩)), (1, .pointer (some ⟨p2, 0, none⟩)), (5, .slice A5 (((filesT ([] : List File) U false).take (k)).flatMap (goneT ([] : List File))).length c5), (34, .slice A34 (filesT ([] : List File) U false).length c34), (35, .int .i64 (((filesT ([] : List File) U false).length : Nat) : Int)), (36, .int .i64 ((k : Nat) : Int))] [row 51 (A5) (c5) (((filesT ([] : List File) U false).take (k)).flatMap (goneT ([] : List File))), box p 75 [.map (some b)], tr b [], box p2 75 [.map (some b2)], tr b2 U] [slA A34 (filesT ([] : List File) U false)]) (fun _ _ h => h) ?_
   refine cs ?_
   refine cr ?_
   refine ls (op (p_icmp rfl rfl rfl) rfl) ?_
   refine ln ?_
   refine nthen ?_
   refine cs ?_
   refine cc rfl ?_ ?_
   ·
    intro h37
    dsimp only at hk
    try simp only [decide_eq_true_eq, decide_eq_false_iff_not, Bool.not_eq_true', Bool.not_eq_false', Int.not_lt, Int.not_le, ge_iff_le, Bool.not_true, Bool.not_false] at h37
    have hk1 : k < (filesT ([] : List File) U false).length := by omega
    have hb1 := fm_len (goneT_len ([] : List File)) (filesT ([] : List File) U false)
    have hb2 := fm_len (comeT_len U) (filesT U ([] : List File) false)
    have hb3 := fm_len (bothT_len ([] : List File) U) ((filesT ([] : List File) U true).take k)
    have hb4 := fm_len (goneT_len ([] : List File)) ((filesT ([] : List File) U false).take k)
    have hb5 := fm_len (comeT_len U) ((filesT U ([] : List File) false).take k)
    have hf1 := filesT_len ([] : List File) U false
    have hf2 := filesT_len U ([] : List File) false
    have hf3 := filesT_len ([] : List File) U true
    have ht1 := List.length_take_le k (filesT ([] : List File) U false)
    have ht2 := List.length_take_le k (filesT U ([] : List File) false)
    have ht3 := List.length_take_le k (filesT ([] : List File) U true)
    refine cskip ?_
    refine nthen ?_
    refine cs ?_
    refine cb ?_
    refine cs ?_
    refine elC (A := A34) (l := filesT ([] : List File) U false) (by repeat' constructor) k (List.getElem?_eq_getElem hk1) ?_; rintro zbp zop zyp hAp
    refine cr ?_
    refine ls (op (p_ia k hAp hk1 rfl Tryd.underlying22 Tryd.sizeOf9 rfl rfl) rfl) ?_
    refine ls (o_ldi Tryd.isAgg9 rfl (by repeat' constructor) 0 rfl (by repeat (first | exact Cut.d | apply Cut.t | apply Cut.s)) rfl) ?_
    refine ls (op (p_asg rfl) rfl) ?_
    refine ln ?_
    refine nthen ?_
    refine cs ?_
    refine cr ?_
    refine ls (op (p_move rfl) rfl) ?_
    refine ls (op (p_move rfl) rfl) ?_
    refine ls (o_call (is := [1, 1]) Tryd.call35 (c_tGet p b ([] : List File) hT (filesT ([] : List File) U false)[k]) rfl rfl (by repeat' (first | constructor | apply Sub.suf)) rfl) ?_
    refine le ?_; rintro ⟨A43, c43⟩
    refine lmono (fun a w h => freezeN (i := 0) rfl h) ?_
    refine lpure (St.cap (m := (getL ([] : List File) (filesT ([] : List File) U false)[k]).length) (c := c43) (by repeat' constructor)) ?_
    intro hcap43
    refine ls (op (p_move rfl) rfl) ?_
    refine ls (op (p_ext rfl (by repeat' constructor)) rfl) ?_
    refine ls (op (p_ext rfl (by repeat' constructor)) rfl) ?_
    refine ls (op (p_asg rfl) rfl) ?_
    refine ls (op (p_asg rfl) rfl) ?_
    refine ln ?_
    refine nthen ?_
    refine cmono (fun a w h => nilSl (α := ByteArray) h) ?_
    refine cr ?_
    refine ls (op (p_move rfl) rfl) ?_
    refine ls (op (p_move rfl) rfl) ?_
    refine ls (op (p_move rfl) rfl) ?_
    refine ls (o_call (is := []) Tryd.call14 (c_dLines (filesT ([] : List File) U false)[k] (getL ([] : List File) (filesT ([] : List File) U false)[k]) [] A43 none c43 0 (by have := hwT (filesT ([] : List File) U false)[k]; omega) (Nat.zero_le _) hcap43 (Nat.le_refl _)) rfl rfl (by repeat' (first | constructor | apply Sub.suf)) rfl) ?_
    refine le ?_; rintro ⟨A49, c49⟩
    refine lmono (fun a w h => freezeN (i := 0) rfl h) ?_
    refine lpure (St.nil (y := (A49, c49)) (by repeat' constructor)) ?_
    intro hn49
    refine ls (o_app (is := [2]) Tryd.underlying34 inf51 rfl (by decide) (by decide) rfl rfl (by (try simp only [List.length_append, List.length_cons, List.length_nil]); have hll := linesT_len ((filesT ([] : List File) U false)[k]) (getL ([] : List File) (filesT ([] : List File) U false)[k]) ([]); omega) (fun _ h => hn49 h) rfl (by repeat' (first | constructor | apply Sub.suf)) rfl) ?_
    refine le ?_; rintro ⟨A50, c50⟩
    refine ls (op (p_move rfl) rfl) ?_
    refine ls (op (p_bld sb51 rfl (Fill.t (by repeat' constructor) rfl rfl (by repeat' constructor) (Fill.t (by repeat' constructor) rfl rfl (by repeat' constructor) Fill.d))) rfl) ?_
    refine ls (o_bsl [pRm (filesT ([] : List File) U false)[k]] Tryd.underlying34 Tryd.sizeOf51 Tryd.zeroValue51 rfl (Enum.t Enum.d) (RV.t ((none, 0), (none, 0)) rfl (by repeat' (first | constructor | apply Sub.suf)) RV.d) rfl (by decide) (by decide) rfl) ?_
    refine le ?_; intro b53
    refine lmono (fun a w h => Go.Sx.freeze (i := 0) rfl h) ?_
    refine ls (o_app (is := [0]) Tryd.underlying34 inf51 rfl (by decide) (by decide) rfl rfl (by (try simp only [List.length_append, List.length_cons, List.length_nil]); have hll := linesT_len ((filesT ([] : List File) U false)[k]) (getL ([] : List File) (filesT ([] : List File) U false)[k]) ([]); omega) (fun h => by cases h) rfl (by repeat' (first | constructor | apply Sub.suf)) rfl) ?_
    refine le ?_; rintro ⟨A54, c54⟩
    refine ls (op (p_asg rfl) rfl) ?_
    refine ln ?_
    refine nblock ?_
    refine nthen ?_
    refine cr ?_
    refine ls (op (p_add rfl rfl (by omega)) rfl) ?_
    refine ls (op (p_move rfl) rfl) ?_
    refine ln ?_
    refine nnext ⟨(k + 1, A54, c54), hk1⟩ (by dsimp only; omega) (fun a w h => by dsimp only; rw [fm_take hk1, show goneT ([] : List File) (filesT ([] : List File) U false)[k] = linesT (filesT ([] : List File) U false)[k] (getL ([] : List File) (filesT ([] : List File) U false)[k]) [] ++ [pRm (filesT ([] : List File) U false)[k]] from rfl, ← List.append_assoc]; exact wk (is := [0, 0, 0, 0, 0]) (by repeat (first | exact subσ.nil _ | refine subσ.cons rfl ?_)) rfl (by repeat' (first | constructor | apply Sub.suf)) a w h)
   ·
    intro h37
    dsimp only at hk
    try simp only [decide_eq_true_eq, decide_eq_false_iff_not, Bool.not_eq_true', Bool.not_eq_false', Int.not_lt, Int.not_le, ge_iff_le, Bool.not_true, Bool.not_false] at h37
    obtain rfl : k = (filesT ([] : List File) U false).length := by omega
    rw [List.take_length]
    refine cexit ?_
    refine xthen ?_
    refine xthen ?_
    refine xblock ?_
    refine nthen ?_
    refine cs ?_
    refine cs ?_
    refine cr ?_
    refine ls (op (p_move rfl) rfl) ?_
    refine ls (op (p_move rfl) rfl) ?_
    refine ls (o_call (is := [3, 3, 1, 1]) Tryd.call34 (c_files p2 b2 U p b ([] : List File) hU hn2 hT hn false) rfl rfl (by repeat' (first | constructor | apply Sub.suf)) rfl) ?_
    refine le ?_; rintro ⟨A58, c58⟩
    refine ls (op (p_lenl rfl Tryd.underlying22) rfl) ?_
    refine ls (op (p_move rfl) rfl) ?_
    refine ln ?_
    refine nthen ?_
    refine cb ?_
    refine cl (ι := {q : Nat × Option Addr × Nat // q.1 ≤ (filesT U ([] : List File) false).length}) (fun i => St M0 F0 w0 108 [(0, .pointer (some ⟨p, 0, none⟩)), (1, .pointer (some ⟨p2, 0, none⟩)), (5, .slice i.1.2.1 ((filesT ([] : List File) U false).flatMap (goneT ([] : List File)) ++ ((filesT U ([] : List File) false).take (i.1.1)).flatMap (comeT U)).length i.1.2.2), (58, .slice A58 (filesT U ([] : List File) false).length c58), (59, .int .i64 (((filesT U ([] : List File) false).length : Nat) : Int)), (60, .int .i64 ((i.1.1 : Nat) : Int))] [row 51 (i.1.2.1) (i.1.2.2) ((filesT ([] : List File) U false).flatMap (goneT ([] : List File)) ++ ((filesT U ([] : List File) false).take (i.1.1)).flatMap (comeT U)), box p 75 [.map (some b)], tr b [], box p2 75 [.map (some b2)], tr b2 U] [slA A58 (filesT U ([] : List File) false)]) (fun i => (filesT U ([] : List File) false).length - i.1.1) ⟨(0, A5, c5), Nat.zero_le _⟩ ((fun a w h => by dsimp only; rw [List.take_zero, List.flatMap_nil, List.append_nil]; exact wk (is := [4, 2, 2, 0, 0]) (by repeat (first | exact subσ.nil _ | refine subσ.cons rfl ?_)) rfl (by repeat' (first | constructor | apply Sub.suf)) a w h)) ?_
    rintro ⟨⟨k, A5, c5⟩, hk⟩
    refine cmono (S' := St M0 F0 w0 108 [(0, .pointer (some ⟨p, 0, none⟩)), (1, .pointer (some ⟨p2, 0, none⟩)), (5, .slice A5 ((filesT ([] : List File) U false).flatMap (goneT ([] : List File)) ++ ((filesT U ([] : List File) false).take (k)).flatMap (comeT U)).length c5), (58, .slice A58 (filesT U ([] : List File) false).length c58), (59, .int .i64 (((filesT U ([] : List File) false).length : Nat) : Int)), (60, .int .i64 ((k : Nat) : Int))] [row 51 (A5) (c5) ((filesT ([] : List File) U false).flatMap (goneT ([] : List File)) ++ ((filesT U ([] : List File) false).take (k)).flatMap (comeT U)), box p 75 [.map (some b)], tr b [], box p2 75 [.map (some b2)], tr b2 U] [slA A58 (filesT U ([] : List File) false)]) (fun _ _ h => h) ?_
    refine cs ?_
    refine cr ?_
    refine ls (op (p_icmp rfl rfl rfl) rfl) ?_
    refine ln ?_
    refine nthen ?_
    refine cs ?_
    refine cc rfl ?_ ?_
    ·
     intro h61
     dsimp only at hk
     try simp only [decide_eq_true_eq, decide_eq_false_iff_not, Bool.not_eq_true', Bool.not_eq_false', Int.not_lt, Int.not_le, ge_iff_le, Bool.not_true, Bool.not_false] at h61
     have hk1 : k < (filesT U ([] : List File) false).length := by omega
     have hb1 := fm_len (goneT_len ([] : List File)) (filesT ([] : List File) U false)
     have hb2 := fm_len (comeT_len U) (filesT U ([] : List File) false)
     have hb3 := fm_len (bothT_len ([] : List File) U) ((filesT ([] : List File) U true).take k)
     have hb4 := fm_len (goneT_len ([] : List File)) ((filesT ([] : List File) U false).take k)
     have hb5 := fm_len (comeT_len U) ((filesT U ([] : List File) false).take k)
     have hf1 := filesT_len ([] : List File) U false
     have hf2 := filesT_len U ([] : List File) false
     have hf3 := filesT_len ([] : List File) U true
     have ht1 := List.length_take_le k (filesT ([] : List File) U false)
     have ht2 := List.length_take_le k (filesT U ([] : List File) false)
     have ht3 := List.length_take_le k (filesT ([] : List File) U true)
     refine cskip ?_
     refine nthen ?_
     refine cs ?_
     refine cb ?_
     refine cs ?_
     refine elC (A := A58) (l := filesT U ([] : List File) false) (by repeat' constructor) k (List.getElem?_eq_getElem hk1) ?_; rintro zbp zop zyp hAp
     refine cr ?_
     refine ls (op (p_ia k hAp hk1 rfl Tryd.underlying22 Tryd.sizeOf9 rfl rfl) rfl) ?_
     refine ls (o_ldi Tryd.isAgg9 rfl (by repeat' constructor) 0 rfl (by repeat (first | exact Cut.d | apply Cut.t | apply Cut.s)) rfl) ?_
     refine ls (op (p_asg rfl) rfl) ?_
     refine ln ?_
     refine nthen ?_
     refine cs ?_
     refine cr ?_
     refine ls (op (p_move rfl) rfl) ?_
     refine ls (op (p_move rfl) rfl) ?_
     refine ls (o_call (is := [3, 3]) Tryd.call35 (c_tGet p2 b2 U hU (filesT U ([] : List File) false)[k]) rfl rfl (by repeat' (first | constructor | apply Sub.suf)) rfl) ?_
     refine le ?_; rintro ⟨A67, c67⟩
     refine lmono (fun a w h => freezeN (i := 0) rfl h) ?_
     refine lpure (St.cap (m := (getL U (filesT U ([] : List File) false)[k]).length) (c := c67) (by repeat' constructor)) ?_
     intro hcap67
     refine ls (op (p_move rfl) rfl) ?_
     refine ls (op (p_ext rfl (by repeat' constructor)) rfl) ?_
     refine ls (op (p_ext rfl (by repeat' constructor)) rfl) ?_
     refine ls (op (p_asg rfl) rfl) ?_
     refine ls (op (p_asg rfl) rfl) ?_
     refine ln ?_
     refine nthen ?_
     refine cmono (fun a w h => nilSl (α := ByteArray) h) ?_
     refine cr ?_
     refine ls (op (p_move rfl) rfl) ?_
     refine ls (op (p_move rfl) rfl) ?_
     refine ls (op (p_bld sb51 rfl (Fill.t (by repeat' constructor) rfl rfl (by repeat' constructor) (Fill.t (by repeat' constructor) rfl rfl (by repeat' constructor) Fill.d))) rfl) ?_
     refine ls (o_bsl [pAd (filesT U ([] : List File) false)[k]] Tryd.underlying34 Tryd.sizeOf51 Tryd.zeroValue51 rfl (Enum.t Enum.d) (RV.t ((none, 0), (none, 0)) rfl (by repeat' (first | constructor | apply Sub.suf)) RV.d) rfl (by decide) (by decide) rfl) ?_
     refine le ?_; intro b73
     refine lmono (fun a w h => Go.Sx.freeze (i := 0) rfl h) ?_
     refine ls (o_app (is := [2]) Tryd.underlying34 inf51 rfl (by decide) (by decide) rfl rfl (by (try simp only [List.length_append, List.length_cons, List.length_nil]); omega) (fun h => by cases h) rfl (by repeat' (first | constructor | apply Sub.suf)) rfl) ?_
     refine le ?_; rintro ⟨A74, c74⟩
     refine ls (op (p_move rfl) rfl) ?_
     refine ls (op (p_move rfl) rfl) ?_
     refine ls (o_call (is := []) Tryd.call14 (c_dLines (filesT U ([] : List File) false)[k] [] (getL U (filesT U ([] : List File) false)[k]) none A67 0 c67 (Nat.zero_le _) (by have := hwU (filesT U ([] : List File) false)[k]; omega) (Nat.le_refl _) hcap67) rfl rfl (by repeat' (first | constructor | apply Sub.suf)) rfl) ?_
     refine le ?_; rintro ⟨A77, c77⟩
     refine lmono (fun a w h => freezeN (i := 0) rfl h) ?_
     refine lpure (St.nil (y := (A77, c77)) (by repeat' constructor)) ?_
     intro hn77
     refine ls (o_app (is := [0]) Tryd.underlying34 inf51 rfl (by decide) (by decide) rfl rfl (by (try simp only [List.length_append, List.length_cons, List.length_nil]); have hll := linesT_len ((filesT U ([] : List File) false)[k]) ([]) (getL U (filesT U ([] : List File) false)[k]); omega) (fun _ h => hn77 h) rfl (by repeat' (first | constructor | apply Sub.suf)) rfl) ?_
     refine le ?_; rintro ⟨A78, c78⟩
     refine ls (op (p_asg rfl) rfl) ?_
     refine ln ?_
     refine nblock ?_
     refine nthen ?_
     refine cr ?_
     refine ls (op (p_add rfl rfl (by omega)) rfl) ?_
     refine ls (op (p_move rfl) rfl) ?_
     refine ln ?_
     refine nnext ⟨(k + 1, A78, c78), hk1⟩ (by dsimp only; omega) (fun a w h => by dsimp only; rw [fm_take hk1, show comeT U (filesT U ([] : List File) false)[k] = [pAd (filesT U ([] : List File) false)[k]] ++ linesT (filesT U ([] : List File) false)[k] [] (getL U (filesT U ([] : List File) false)[k]) from rfl, ← List.append_assoc, ← List.append_assoc]; exact wk (is := [0, 2, 2, 0, 0]) (by repeat (first | exact subσ.nil _ | refine subσ.cons rfl ?_)) rfl (by repeat' (first | constructor | apply Sub.suf)) a w h)
    ·
     intro h61
     dsimp only at hk
     try simp only [decide_eq_true_eq, decide_eq_false_iff_not, Bool.not_eq_true', Bool.not_eq_false', Int.not_lt, Int.not_le, ge_iff_le, Bool.not_true, Bool.not_false] at h61
     obtain rfl : k = (filesT U ([] : List File) false).length := by omega
     rw [List.take_length]
     refine cexit ?_
     refine xthen ?_
     refine xthen ?_
     refine xblock ?_
     refine nthen ?_
     refine cs ?_
     refine cs ?_
     refine cr ?_
     refine ls (op (p_move rfl) rfl) ?_
     refine ls (op (p_move rfl) rfl) ?_
     refine ls (o_call (is := [1, 1, 1, 1]) Tryd.call34 (c_files p b ([] : List File) p2 b2 U hT hn hU hn2 true) rfl rfl (by repeat' (first | constructor | apply Sub.suf)) rfl) ?_
     refine le ?_; rintro ⟨A82, c82⟩
     refine ls (op (p_lenl rfl Tryd.underlying22) rfl) ?_
     refine ls (op (p_move rfl) rfl) ?_
     refine ln ?_
     refine nthen ?_
     refine cb ?_
     refine cl (ι := {q : Nat × Option Addr × Nat // q.1 ≤ (filesT ([] : List File) U true).length}) (fun i => St M0 F0 w0 108 [(0, .pointer (some ⟨p, 0, none⟩)), (1, .pointer (some ⟨p2, 0, none⟩)), (5, .slice i.1.2.1 (((filesT ([] : List File) U false).flatMap (goneT ([] : List File)) ++ (filesT U ([] : List File) false).flatMap (comeT U)) ++ ((filesT ([] : List File) U true).take (i.1.1)).flatMap (bothT ([] : List File) U)).length i.1.2.2), (82, .slice A82 (filesT ([] : List File) U true).length c82), (83, .int .i64 (((filesT ([] : List File) U true).length : Nat) : Int)), (84, .int .i64 ((i.1.1 : Nat) : Int))] [row 51 (i.1.2.1) (i.1.2.2) (((filesT ([] : List File) U false).flatMap (goneT ([] : List File)) ++ (filesT U ([] : List File) false).flatMap (comeT U)) ++ ((filesT ([] : List File) U true).take (i.1.1)).flatMap (bothT ([] : List File) U)), box p 75 [.map (some b)], tr b [], box p2 75 [.map (some b2)], tr b2 U] [slA A82 (filesT ([] : List File) U true)]) (fun i => (filesT ([] : List File) U true).length - i.1.1) ⟨(0, A5, c5), Nat.zero_le _⟩ ((fun a w h => by dsimp only; rw [List.take_zero, List.flatMap_nil, List.append_nil]; exact wk (is := [4, 0, 0, 0, 0]) (by repeat (first | exact subσ.nil _ | refine subσ.cons rfl ?_)) rfl (by repeat' (first | constructor | apply Sub.suf)) a w h)) ?_
     rintro ⟨⟨k, A5, c5⟩, hk⟩
     refine cmono (S' := St M0 F0 w0 108 [(0, .pointer (some ⟨p, 0, none⟩)), (1, .pointer (some ⟨p2, 0, none⟩)), (5, .slice A5 (((filesT ([] : List File) U false).flatMap (goneT ([] : List File)) ++ (filesT U ([] : List File) false).flatMap (comeT U)) ++ ((filesT ([] : List File) U true).take (k)).flatMap (bothT ([] : List File) U)).length c5), (82, .slice A82 (filesT ([] : List File) U true).length c82), (83, .int .i64 (((filesT ([] : List File) U true).length : Nat) : Int)), (84, .int .i64 ((k : Nat) : Int))] [row 51 (A5) (c5) (((filesT ([] : List File) U false).flatMap (goneT ([] : List File)) ++ (filesT U ([] : List File) false).flatMap (comeT U)) ++ ((filesT ([] : List File) U true).take (k)).flatMap (bothT ([] : List File) U)), box p 75 [.map (some b)], tr b [], box p2 75 [.map (some b2)], tr b2 U] [slA A82 (filesT ([] : List File) U true)]) (fun _ _ h => h) ?_
     refine cs ?_
     refine cr ?_
     refine ls (op (p_icmp rfl rfl rfl) rfl) ?_
     refine ln ?_
     refine nthen ?_
     refine cs ?_
     refine cc rfl ?_ ?_
     ·
      intro h85
      dsimp only at hk
      try simp only [decide_eq_true_eq, decide_eq_false_iff_not, Bool.not_eq_true', Bool.not_eq_false', Int.not_lt, Int.not_le, ge_iff_le, Bool.not_true, Bool.not_false] at h85
      have hk1 : k < (filesT ([] : List File) U true).length := by omega
      have hb1 := fm_len (goneT_len ([] : List File)) (filesT ([] : List File) U false)
      have hb2 := fm_len (comeT_len U) (filesT U ([] : List File) false)
      have hb3 := fm_len (bothT_len ([] : List File) U) ((filesT ([] : List File) U true).take k)
      have hb4 := fm_len (goneT_len ([] : List File)) ((filesT ([] : List File) U false).take k)
      have hb5 := fm_len (comeT_len U) ((filesT U ([] : List File) false).take k)
      have hf1 := filesT_len ([] : List File) U false
      have hf2 := filesT_len U ([] : List File) false
      have hf3 := filesT_len ([] : List File) U true
      have ht1 := List.length_take_le k (filesT ([] : List File) U false)
      have ht2 := List.length_take_le k (filesT U ([] : List File) false)
      have ht3 := List.length_take_le k (filesT ([] : List File) U true)
      refine cskip ?_
      refine nthen ?_
      refine cs ?_
      refine cb ?_
      refine cs ?_
      refine elC (A := A82) (l := filesT ([] : List File) U true) (by repeat' constructor) k (List.getElem?_eq_getElem hk1) ?_; rintro zbp zop zyp hAp
      refine cr ?_
      refine ls (op (p_ia k hAp hk1 rfl Tryd.underlying22 Tryd.sizeOf9 rfl rfl) rfl) ?_
      refine ls (o_ldi Tryd.isAgg9 rfl (by repeat' constructor) 0 rfl (by repeat (first | exact Cut.d | apply Cut.t | apply Cut.s)) rfl) ?_
      refine ls (op (p_asg rfl) rfl) ?_
      refine ln ?_
      refine nthen ?_
      refine cs ?_
      refine cr ?_
      refine ls (op (p_move rfl) rfl) ?_
      refine ls (op (p_move rfl) rfl) ?_
      refine ls (o_call (is := [1, 1]) Tryd.call35 (c_tGet p b ([] : List File) hT (filesT ([] : List File) U true)[k]) rfl rfl (by repeat' (first | constructor | apply Sub.suf)) rfl) ?_
      refine le ?_; rintro ⟨A91, c91⟩
      refine lmono (fun a w h => freezeN (i := 0) rfl h) ?_
      refine lpure (St.cap (m := (getL ([] : List File) (filesT ([] : List File) U true)[k]).length) (c := c91) (by repeat' constructor)) ?_
      intro hcap91
      refine ls (op (p_move rfl) rfl) ?_
      refine ls (op (p_ext rfl (by repeat' constructor)) rfl) ?_
      refine ls (op (p_ext rfl (by repeat' constructor)) rfl) ?_
      refine ls (op (p_asg rfl) rfl) ?_
      refine ls (op (p_asg rfl) rfl) ?_
      refine ln ?_
      refine nthen ?_
      refine cs ?_
      refine cr ?_
      refine ls (op (p_move rfl) rfl) ?_
      refine ls (op (p_move rfl) rfl) ?_
      refine ls (o_call (is := [3, 3]) Tryd.call35 (c_tGet p2 b2 U hU (filesT ([] : List File) U true)[k]) rfl rfl (by repeat' (first | constructor | apply Sub.suf)) rfl) ?_
      refine le ?_; rintro ⟨A97, c97⟩
      refine lmono (fun a w h => freezeN (i := 0) rfl h) ?_
      refine lpure (St.cap (m := (getL U (filesT ([] : List File) U true)[k]).length) (c := c97) (by repeat' constructor)) ?_
      intro hcap97
      refine ls (op (p_move rfl) rfl) ?_
      refine ls (op (p_ext rfl (by repeat' constructor)) rfl) ?_
      refine ls (op (p_ext rfl (by repeat' constructor)) rfl) ?_
      refine ls (op (p_asg rfl) rfl) ?_
      refine ls (op (p_asg rfl) rfl) ?_
      refine ln ?_
      refine nthen ?_
      refine cr ?_
      refine ls (op (p_move rfl) rfl) ?_
      refine ls (op (p_move rfl) rfl) ?_
      refine ls (op (p_move rfl) rfl) ?_
      refine ls (op (p_move rfl) rfl) ?_
      refine ls (o_call (is := []) Tryd.call14 (c_dLines (filesT ([] : List File) U true)[k] (getL ([] : List File) (filesT ([] : List File) U true)[k]) (getL U (filesT ([] : List File) U true)[k]) A91 A97 c91 c97 (by have := hwT (filesT ([] : List File) U true)[k]; omega) (by have := hwU (filesT ([] : List File) U true)[k]; omega) hcap91 hcap97) rfl rfl (by repeat' (first | constructor | apply Sub.suf)) rfl) ?_
      refine le ?_; rintro ⟨A104, c104⟩
      refine lmono (fun a w h => freezeN (i := 0) rfl h) ?_
      refine lpure (St.nil (y := (A104, c104)) (by repeat' constructor)) ?_
      intro hn104
      refine ls (o_app (is := [4]) Tryd.underlying34 inf51 rfl (by decide) (by decide) rfl rfl (by (try simp only [List.length_append, List.length_cons, List.length_nil]); have hll := linesT_len ((filesT ([] : List File) U true)[k]) (getL ([] : List File) (filesT ([] : List File) U true)[k]) (getL U (filesT ([] : List File) U true)[k]); omega) (fun _ h => hn104 h) rfl (by repeat' (first | constructor | apply Sub.suf)) rfl) ?_
      refine le ?_; rintro ⟨A105, c105⟩
      refine ls (op (p_asg rfl) rfl) ?_
      refine ln ?_
      refine nblock ?_
      refine nthen ?_
      refine cr ?_
      refine ls (op (p_add rfl rfl (by omega)) rfl) ?_
      refine ls (op (p_move rfl) rfl) ?_
      refine ln ?_
      refine nnext ⟨(k + 1, A105, c105), hk1⟩ (by dsimp only; omega) (fun a w h => by dsimp only; rw [fm_take hk1, show bothT ([] : List File) U (filesT ([] : List File) U true)[k] = linesT (filesT ([] : List File) U true)[k] (getL ([] : List File) (filesT ([] : List File) U true)[k]) (getL U (filesT ([] : List File) U true)[k]) from rfl, ← List.append_assoc]; exact wk (is := [0, 2, 2, 0, 0]) (by repeat (first | exact subσ.nil _ | refine subσ.cons rfl ?_)) rfl (by repeat' (first | constructor | apply Sub.suf)) a w h)
     ·
      intro h85
      dsimp only at hk
      try simp only [decide_eq_true_eq, decide_eq_false_iff_not, Bool.not_eq_true', Bool.not_eq_false', Int.not_lt, Int.not_le, ge_iff_le, Bool.not_true, Bool.not_false] at h85
      obtain rfl : k = (filesT ([] : List File) U true).length := by omega
      rw [List.take_length]
      refine cexit ?_
      refine xthen ?_
      refine xthen ?_
      refine xblock ?_
      refine nthen ?_
      refine cs ?_
      refine cmono (fun a w h => rowEq (α := Prim) (by repeat' constructor) ((treesT_no hw).symm) (by repeat' constructor) h) ?_
      refine cr ?_
      refine ls (op (p_move rfl) rfl) ?_
      refine ls (op (p_asg rfl) rfl) ?_
      refine ln ?_
      refine nthen ?_
      refine cret ?_
      refine xret (fun _ _ h => h) ?_
      refine rret (is := [0, 2, 2]) (A5, c5) (Or.inl rfl) (Res.t rfl Res.d) ?_ rfl (by repeat' (first | constructor | apply Sub.suf))
      rw [treesT_no hw]; rfl

set_option maxRecDepth 100000 in
theorem c_dTreesM (p b : Nat) (T : List File) (hT : Tfit T) (hn : T.length ≤ 2000000) (hST : Sor T) : Con Tryd.prog 19 [.pointer (some ⟨p, 0, none⟩), .pointer none] [box p 75 [.map (some b)], tr b T] [] (Option Addr × Nat) (fun x => .slice x.1 (treesT T ([] : List File)).length x.2) (fun x => [row 51 x.1 x.2 (treesT T ([] : List File)), box p 75 [.map (some b)], tr b T]) (fun _ => []) := by
 have hU : Tfit [] := fun x hx => by cases hx
 have hn2 : ([] : List File).length ≤ 2000000 := Nat.zero_le _
 have hSU : Sor [] := Sor.nil
 refine con Tryd.func19 rfl Tryd.ntmps19 rfl ?_
 intro M0 F0 w0
 refine cs ?_
 refine cr ?_
 refine ls (op (p_asg rfl) rfl) ?_
 refine ln ?_
 refine nthen ?_
 refine cs ?_
 refine cs ?_
 refine cr ?_
 refine ls (op (p_move rfl) rfl) ?_
 refine ls (op (p_ptrnil Tryd.underlying39 rfl rfl) rfl) ?_
 refine ln ?_
 refine nthen ?_
 refine cc rfl (fun h => by cases h) (fun h => ?_)
 refine cskip ?_
 refine nthen ?_
 refine cs ?_
 refine cs ?_
 refine cr ?_
 refine ls (op (p_move rfl) rfl) ?_
 refine ls (op (p_ptrnil0 Tryd.underlying39 rfl rfl) rfl) ?_
 refine ln ?_
 refine nthen ?_
 refine cc rfl (fun h => ?_) (fun h => by cases h)
 refine cr ?_
 refine ls (o_call (is := []) Tryd.call24 (c_tNew) rfl rfl (by repeat' (first | constructor | apply Sub.suf)) rfl) ?_
 refine le ?_; rintro ⟨p2, b2⟩
 refine ls (op (p_asg rfl) rfl) ?_
 refine ln ?_
 refine nthen ?_
 refine cs ?_
 refine cs ?_
 refine cmono (fun a w h => stPerm (is := [2, 2]) rfl h) ?_
 refine cr ?_
 refine ls (op (p_move rfl) rfl) ?_
 refine ls (o_call (is := [0, 0]) Tryd.call33 (c_wide p b T hT hn) rfl rfl (by repeat' (first | constructor | apply Sub.suf)) rfl) ?_
 refine le ?_; intro x27
 refine ls (op (p_move rfl) rfl) ?_
 refine orX 3 28 31 rfl (subσ.cons (t := 0) rfl (subσ.cons (t := 1) rfl (subσ.cons (t := 4) rfl (subσ.cons (t := 20) rfl (subσ.cons (t := 21) rfl (subσ.cons (t := 23) rfl (subσ.cons (t := 24) rfl (subσ.cons (t := 25) rfl (subσ.nil _))))))))) ?_ ?_
 ·
  intro h28
  refine lskip rfl rfl rfl rfl rfl ?_
  refine lskip rfl rfl rfl rfl rfl ?_
  refine ls (op (p_pickt rfl rfl) rfl) ?_
  refine ln (nmid (wk0 (by repeat (first | exact subσ.nil _ | refine subσ.cons rfl ?_)) (by repeat' (first | constructor | apply Sub.suf))))
 apply exI
 ·
  intro h28
  refine lwant rfl rfl rfl rfl (op (p_move rfl) rfl) ?_
  refine lwant rfl rfl rfl rfl (o_call (is := [2, 2]) Tryd.call33 (c_wide p2 b2 ([] : List File) hU hn2) rfl rfl (by repeat' (first | constructor | apply Sub.suf)) rfl) ?_
  refine le ?_; intro x30
  refine lmono (fun a w h => stPerm (is := [2, 2]) rfl h) ?_
  refine ls (op (p_pickf rfl rfl) rfl) ?_
  refine ln (nmid (wk0 (by repeat (first | exact subσ.nil _ | refine subσ.cons rfl ?_)) (by repeat' (first | constructor | apply Sub.suf))))
 ·
  refine ln ?_
  refine nthen ?_
  refine cc rfl ?_ ?_
  ·
   intro h31
   have hw : (wideB T || wideB ([] : List File)) = true := h31
   refine cs ?_
   refine cmono (fun a w h => nilRow (α := Prim) 51 h) ?_
   refine cmono (fun a w h => rowEq (α := Prim) (by repeat' constructor) ((treesT_yes hw).symm) (by repeat' constructor) h) ?_
   refine cr ?_
   refine ls (op (p_asg rfl) rfl) ?_
   refine ln ?_
   refine nthen ?_
   refine cret ?_
   refine xret (fun _ _ h => h) ?_
   refine rret (is := [0, 0, 0]) (none, 0) (Or.inl rfl) (Res.t rfl Res.d) ?_ rfl (by repeat' (first | constructor | apply Sub.suf))
   rw [treesT_yes hw]; rfl
  ·
   intro h31
   have hw : (wideB T || wideB ([] : List File)) = false := h31
   obtain ⟨hw1, hw2⟩ := Bool.or_eq_false_iff.1 hw
   have hwT := wide_get hST hw1
   have hwU := wide_get hSU hw2
   refine cskip ?_
   refine nthen ?_
   refine cs ?_
   refine cr ?_
   refine ls (op (p_asg rfl) rfl) ?_
   refine ln ?_
   refine nthen ?_
   refine cs ?_
   refine cs ?_
   refine cmono (fun a w h => nilRow (α := Prim) 51 h) ?_
   refine cr ?_
   refine ls (op (p_move rfl) rfl) ?_
   refine ls (op (p_move rfl) rfl) ?_
   refine ls (o_call (is := [1, 1, 1, 1]) Tryd.call34 (c_files p b T p2 b2 ([] : List File) hT hn hU hn2 false) rfl rfl (by repeat' (first | constructor | apply Sub.suf)) rfl) ?_
   refine le ?_; rintro ⟨A34, c34⟩
   refine ls (op (p_lenl rfl Tryd.underlying22) rfl) ?_
   refine ls (op (p_move rfl) rfl) ?_
   refine ln ?_
   refine nthen ?_
   refine cb ?_
   refine cl (ι := {q : Nat × Option Addr × Nat // q.1 ≤ (filesT T ([] : List File) false).length}) (fun i => St M0 F0 w0 108 [(0, .pointer (some ⟨p, 0, none⟩)), (1, .pointer (some ⟨p2, 0, none⟩)), (5, .slice i.1.2.1 (((filesT T ([] : List File) false).take (i.1.1)).flatMap (goneT T)).length i.1.2.2), (34, .slice A34 (filesT T ([] : List File) false).length c34), (35, .int .i64 (((filesT T ([] : List File) false).length : Nat) : Int)), (36, .int .i64 ((i.1.1 : Nat) : Int))] [row 51 (i.1.2.1) (i.1.2.2) (((filesT T ([] : List File) false).take (i.1.1)).flatMap (goneT T)), box p 75 [.map (some b)], tr b T, box p2 75 [.map (some b2)], tr b2 []] [slA A34 (filesT T ([] : List File) false)]) (fun i => (filesT T ([] : List File) false).length - i.1.1) ⟨(0, none, 0), Nat.zero_le _⟩ (wk (is := [4, 0, 0, 0, 0]) (by repeat (first | exact subσ.nil _ | refine subσ.cons rfl ?_)) rfl (by repeat' (first | constructor | apply Sub.suf))) ?_
   rintro ⟨⟨k, A5, c5⟩, hk⟩
   refine cmono (S' := St M0 F0 w0 108 [(0, .pointer (some ⟨p, 0, none⟩)), (1, .pointer (some ⟨p2, 0, none⟩)), (5, .slice A5 (((filesT T ([] : List File) false).take (k)).flatMap (goneT T)).length c5), (34, .slice A34 (filesT T ([] : List File) false).length c34), (35, .int .i64 (((filesT T ([] : List File) false).length : Nat) : Int)), (36, .int .i64 ((k : Nat) : Int))] [row 51 (A5) (c5) (((filesT T ([] : List File) false).take (k)).flatMap (goneT T)), box p 75 [.map (some b)], tr b T, box p2 75 [.map (some b2)], tr b2 []] [slA A34 (filesT T ([] : List File) false)]) (fun _ _ h => h) ?_
   refine cs ?_
   refine cr ?_
   refine ls (op (p_icmp rfl rfl rfl) rfl) ?_
   refine ln ?_
   refine nthen ?_
   refine cs ?_
   refine cc rfl ?_ ?_
   ·
    intro h37
    dsimp only at hk
    try simp only [decide_eq_true_eq, decide_eq_false_iff_not, Bool.not_eq_true', Bool.not_eq_false', Int.not_lt, Int.not_le, ge_iff_le, Bool.not_true, Bool.not_false] at h37
    have hk1 : k < (filesT T ([] : List File) false).length := by omega
    have hb1 := fm_len (goneT_len T) (filesT T ([] : List File) false)
    have hb2 := fm_len (comeT_len ([] : List File)) (filesT ([] : List File) T false)
    have hb3 := fm_len (bothT_len T ([] : List File)) ((filesT T ([] : List File) true).take k)
    have hb4 := fm_len (goneT_len T) ((filesT T ([] : List File) false).take k)
    have hb5 := fm_len (comeT_len ([] : List File)) ((filesT ([] : List File) T false).take k)
    have hf1 := filesT_len T ([] : List File) false
    have hf2 := filesT_len ([] : List File) T false
    have hf3 := filesT_len T ([] : List File) true
    have ht1 := List.length_take_le k (filesT T ([] : List File) false)
    have ht2 := List.length_take_le k (filesT ([] : List File) T false)
    have ht3 := List.length_take_le k (filesT T ([] : List File) true)
    refine cskip ?_
    refine nthen ?_
    refine cs ?_
    refine cb ?_
    refine cs ?_
    refine elC (A := A34) (l := filesT T ([] : List File) false) (by repeat' constructor) k (List.getElem?_eq_getElem hk1) ?_; rintro zbp zop zyp hAp
    refine cr ?_
    refine ls (op (p_ia k hAp hk1 rfl Tryd.underlying22 Tryd.sizeOf9 rfl rfl) rfl) ?_
    refine ls (o_ldi Tryd.isAgg9 rfl (by repeat' constructor) 0 rfl (by repeat (first | exact Cut.d | apply Cut.t | apply Cut.s)) rfl) ?_
    refine ls (op (p_asg rfl) rfl) ?_
    refine ln ?_
    refine nthen ?_
    refine cs ?_
    refine cr ?_
    refine ls (op (p_move rfl) rfl) ?_
    refine ls (op (p_move rfl) rfl) ?_
    refine ls (o_call (is := [1, 1]) Tryd.call35 (c_tGet p b T hT (filesT T ([] : List File) false)[k]) rfl rfl (by repeat' (first | constructor | apply Sub.suf)) rfl) ?_
    refine le ?_; rintro ⟨A43, c43⟩
    refine lmono (fun a w h => freezeN (i := 0) rfl h) ?_
    refine lpure (St.cap (m := (getL T (filesT T ([] : List File) false)[k]).length) (c := c43) (by repeat' constructor)) ?_
    intro hcap43
    refine ls (op (p_move rfl) rfl) ?_
    refine ls (op (p_ext rfl (by repeat' constructor)) rfl) ?_
    refine ls (op (p_ext rfl (by repeat' constructor)) rfl) ?_
    refine ls (op (p_asg rfl) rfl) ?_
    refine ls (op (p_asg rfl) rfl) ?_
    refine ln ?_
    refine nthen ?_
    refine cmono (fun a w h => nilSl (α := ByteArray) h) ?_
    refine cr ?_
    refine ls (op (p_move rfl) rfl) ?_
    refine ls (op (p_move rfl) rfl) ?_
    refine ls (op (p_move rfl) rfl) ?_
    refine ls (o_call (is := []) Tryd.call14 (c_dLines (filesT T ([] : List File) false)[k] (getL T (filesT T ([] : List File) false)[k]) [] A43 none c43 0 (by have := hwT (filesT T ([] : List File) false)[k]; omega) (Nat.zero_le _) hcap43 (Nat.le_refl _)) rfl rfl (by repeat' (first | constructor | apply Sub.suf)) rfl) ?_
    refine le ?_; rintro ⟨A49, c49⟩
    refine lmono (fun a w h => freezeN (i := 0) rfl h) ?_
    refine lpure (St.nil (y := (A49, c49)) (by repeat' constructor)) ?_
    intro hn49
    refine ls (o_app (is := [2]) Tryd.underlying34 inf51 rfl (by decide) (by decide) rfl rfl (by (try simp only [List.length_append, List.length_cons, List.length_nil]); have hll := linesT_len ((filesT T ([] : List File) false)[k]) (getL T (filesT T ([] : List File) false)[k]) ([]); omega) (fun _ h => hn49 h) rfl (by repeat' (first | constructor | apply Sub.suf)) rfl) ?_
    refine le ?_; rintro ⟨A50, c50⟩
    refine ls (op (p_move rfl) rfl) ?_
    refine ls (op (p_bld sb51 rfl (Fill.t (by repeat' constructor) rfl rfl (by repeat' constructor) (Fill.t (by repeat' constructor) rfl rfl (by repeat' constructor) Fill.d))) rfl) ?_
    refine ls (o_bsl [pRm (filesT T ([] : List File) false)[k]] Tryd.underlying34 Tryd.sizeOf51 Tryd.zeroValue51 rfl (Enum.t Enum.d) (RV.t ((none, 0), (none, 0)) rfl (by repeat' (first | constructor | apply Sub.suf)) RV.d) rfl (by decide) (by decide) rfl) ?_
    refine le ?_; intro b53
    refine lmono (fun a w h => Go.Sx.freeze (i := 0) rfl h) ?_
    refine ls (o_app (is := [0]) Tryd.underlying34 inf51 rfl (by decide) (by decide) rfl rfl (by (try simp only [List.length_append, List.length_cons, List.length_nil]); have hll := linesT_len ((filesT T ([] : List File) false)[k]) (getL T (filesT T ([] : List File) false)[k]) ([]); omega) (fun h => by cases h) rfl (by repeat' (first | constructor | apply Sub.suf)) rfl) ?_
    refine le ?_; rintro ⟨A54, c54⟩
    refine ls (op (p_asg rfl) rfl) ?_
    refine ln ?_
    refine nblock ?_
    refine nthen ?_
    refine cr ?_
    refine ls (op (p_add rfl rfl (by omega)) rfl) ?_
    refine ls (op (p_move rfl) rfl) ?_
    refine ln ?_
    refine nnext ⟨(k + 1, A54, c54), hk1⟩ (by dsimp only; omega) (fun a w h => by dsimp only; rw [fm_take hk1, show goneT T (filesT T ([] : List File) false)[k] = linesT (filesT T ([] : List File) false)[k] (getL T (filesT T ([] : List File) false)[k]) [] ++ [pRm (filesT T ([] : List File) false)[k]] from rfl, ← List.append_assoc]; exact wk (is := [0, 0, 0, 0, 0]) (by repeat (first | exact subσ.nil _ | refine subσ.cons rfl ?_)) rfl (by repeat' (first | constructor | apply Sub.suf)) a w h)
   ·
    intro h37
    dsimp only at hk
    try simp only [decide_eq_true_eq, decide_eq_false_iff_not, Bool.not_eq_true', Bool.not_eq_false', Int.not_lt, Int.not_le, ge_iff_le, Bool.not_true, Bool.not_false] at h37
    obtain rfl : k = (filesT T ([] : List File) false).length := by omega
    rw [List.take_length]
    refine cexit ?_
    refine xthen ?_
    refine xthen ?_
    refine xblock ?_
    refine nthen ?_
    refine cs ?_
    refine cs ?_
    refine cr ?_
    refine ls (op (p_move rfl) rfl) ?_
    refine ls (op (p_move rfl) rfl) ?_
    refine ls (o_call (is := [3, 3, 1, 1]) Tryd.call34 (c_files p2 b2 ([] : List File) p b T hU hn2 hT hn false) rfl rfl (by repeat' (first | constructor | apply Sub.suf)) rfl) ?_
    refine le ?_; rintro ⟨A58, c58⟩
    refine ls (op (p_lenl rfl Tryd.underlying22) rfl) ?_
    refine ls (op (p_move rfl) rfl) ?_
    refine ln ?_
    refine nthen ?_
    refine cb ?_
    refine cl (ι := {q : Nat × Option Addr × Nat // q.1 ≤ (filesT ([] : List File) T false).length}) (fun i => St M0 F0 w0 108 [(0, .pointer (some ⟨p, 0, none⟩)), (1, .pointer (some ⟨p2, 0, none⟩)), (5, .slice i.1.2.1 ((filesT T ([] : List File) false).flatMap (goneT T) ++ ((filesT ([] : List File) T false).take (i.1.1)).flatMap (comeT ([] : List File))).length i.1.2.2), (58, .slice A58 (filesT ([] : List File) T false).length c58), (59, .int .i64 (((filesT ([] : List File) T false).length : Nat) : Int)), (60, .int .i64 ((i.1.1 : Nat) : Int))] [row 51 (i.1.2.1) (i.1.2.2) ((filesT T ([] : List File) false).flatMap (goneT T) ++ ((filesT ([] : List File) T false).take (i.1.1)).flatMap (comeT ([] : List File))), box p 75 [.map (some b)], tr b T, box p2 75 [.map (some b2)], tr b2 []] [slA A58 (filesT ([] : List File) T false)]) (fun i => (filesT ([] : List File) T false).length - i.1.1) ⟨(0, A5, c5), Nat.zero_le _⟩ ((fun a w h => by dsimp only; rw [List.take_zero, List.flatMap_nil, List.append_nil]; exact wk (is := [4, 2, 2, 0, 0]) (by repeat (first | exact subσ.nil _ | refine subσ.cons rfl ?_)) rfl (by repeat' (first | constructor | apply Sub.suf)) a w h)) ?_
    rintro ⟨⟨k, A5, c5⟩, hk⟩
    refine cmono (S' := St M0 F0 w0 108 [(0, .pointer (some ⟨p, 0, none⟩)), (1, .pointer (some ⟨p2, 0, none⟩)), (5, .slice A5 ((filesT T ([] : List File) false).flatMap (goneT T) ++ ((filesT ([] : List File) T false).take (k)).flatMap (comeT ([] : List File))).length c5), (58, .slice A58 (filesT ([] : List File) T false).length c58), (59, .int .i64 (((filesT ([] : List File) T false).length : Nat) : Int)), (60, .int .i64 ((k : Nat) : Int))] [row 51 (A5) (c5) ((filesT T ([] : List File) false).flatMap (goneT T) ++ ((filesT ([] : List File) T false).take (k)).flatMap (comeT ([] : List File))), box p 75 [.map (some b)], tr b T, box p2 75 [.map (some b2)], tr b2 []] [slA A58 (filesT ([] : List File) T false)]) (fun _ _ h => h) ?_
    refine cs ?_
    refine cr ?_
    refine ls (op (p_icmp rfl rfl rfl) rfl) ?_
    refine ln ?_
    refine nthen ?_
    refine cs ?_
    refine cc rfl ?_ ?_
    ·
     intro h61
     dsimp only at hk
     try simp only [decide_eq_true_eq, decide_eq_false_iff_not, Bool.not_eq_true', Bool.not_eq_false', Int.not_lt, Int.not_le, ge_iff_le, Bool.not_true, Bool.not_false] at h61
     have hk1 : k < (filesT ([] : List File) T false).length := by omega
     have hb1 := fm_len (goneT_len T) (filesT T ([] : List File) false)
     have hb2 := fm_len (comeT_len ([] : List File)) (filesT ([] : List File) T false)
     have hb3 := fm_len (bothT_len T ([] : List File)) ((filesT T ([] : List File) true).take k)
     have hb4 := fm_len (goneT_len T) ((filesT T ([] : List File) false).take k)
     have hb5 := fm_len (comeT_len ([] : List File)) ((filesT ([] : List File) T false).take k)
     have hf1 := filesT_len T ([] : List File) false
     have hf2 := filesT_len ([] : List File) T false
     have hf3 := filesT_len T ([] : List File) true
     have ht1 := List.length_take_le k (filesT T ([] : List File) false)
     have ht2 := List.length_take_le k (filesT ([] : List File) T false)
     have ht3 := List.length_take_le k (filesT T ([] : List File) true)
     refine cskip ?_
     refine nthen ?_
     refine cs ?_
     refine cb ?_
     refine cs ?_
     refine elC (A := A58) (l := filesT ([] : List File) T false) (by repeat' constructor) k (List.getElem?_eq_getElem hk1) ?_; rintro zbp zop zyp hAp
     refine cr ?_
     refine ls (op (p_ia k hAp hk1 rfl Tryd.underlying22 Tryd.sizeOf9 rfl rfl) rfl) ?_
     refine ls (o_ldi Tryd.isAgg9 rfl (by repeat' constructor) 0 rfl (by repeat (first | exact Cut.d | apply Cut.t | apply Cut.s)) rfl) ?_
     refine ls (op (p_asg rfl) rfl) ?_
     refine ln ?_
     refine nthen ?_
     refine cs ?_
     refine cr ?_
     refine ls (op (p_move rfl) rfl) ?_
     refine ls (op (p_move rfl) rfl) ?_
     refine ls (o_call (is := [3, 3]) Tryd.call35 (c_tGet p2 b2 ([] : List File) hU (filesT ([] : List File) T false)[k]) rfl rfl (by repeat' (first | constructor | apply Sub.suf)) rfl) ?_
     refine le ?_; rintro ⟨A67, c67⟩
     refine lmono (fun a w h => freezeN (i := 0) rfl h) ?_
     refine lpure (St.cap (m := (getL ([] : List File) (filesT ([] : List File) T false)[k]).length) (c := c67) (by repeat' constructor)) ?_
     intro hcap67
     refine ls (op (p_move rfl) rfl) ?_
     refine ls (op (p_ext rfl (by repeat' constructor)) rfl) ?_
     refine ls (op (p_ext rfl (by repeat' constructor)) rfl) ?_
     refine ls (op (p_asg rfl) rfl) ?_
     refine ls (op (p_asg rfl) rfl) ?_
     refine ln ?_
     refine nthen ?_
     refine cmono (fun a w h => nilSl (α := ByteArray) h) ?_
     refine cr ?_
     refine ls (op (p_move rfl) rfl) ?_
     refine ls (op (p_move rfl) rfl) ?_
     refine ls (op (p_bld sb51 rfl (Fill.t (by repeat' constructor) rfl rfl (by repeat' constructor) (Fill.t (by repeat' constructor) rfl rfl (by repeat' constructor) Fill.d))) rfl) ?_
     refine ls (o_bsl [pAd (filesT ([] : List File) T false)[k]] Tryd.underlying34 Tryd.sizeOf51 Tryd.zeroValue51 rfl (Enum.t Enum.d) (RV.t ((none, 0), (none, 0)) rfl (by repeat' (first | constructor | apply Sub.suf)) RV.d) rfl (by decide) (by decide) rfl) ?_
     refine le ?_; intro b73
     refine lmono (fun a w h => Go.Sx.freeze (i := 0) rfl h) ?_
     refine ls (o_app (is := [2]) Tryd.underlying34 inf51 rfl (by decide) (by decide) rfl rfl (by (try simp only [List.length_append, List.length_cons, List.length_nil]); omega) (fun h => by cases h) rfl (by repeat' (first | constructor | apply Sub.suf)) rfl) ?_
     refine le ?_; rintro ⟨A74, c74⟩
     refine ls (op (p_move rfl) rfl) ?_
     refine ls (op (p_move rfl) rfl) ?_
     refine ls (o_call (is := []) Tryd.call14 (c_dLines (filesT ([] : List File) T false)[k] [] (getL ([] : List File) (filesT ([] : List File) T false)[k]) none A67 0 c67 (Nat.zero_le _) (by have := hwU (filesT ([] : List File) T false)[k]; omega) (Nat.le_refl _) hcap67) rfl rfl (by repeat' (first | constructor | apply Sub.suf)) rfl) ?_
     refine le ?_; rintro ⟨A77, c77⟩
     refine lmono (fun a w h => freezeN (i := 0) rfl h) ?_
     refine lpure (St.nil (y := (A77, c77)) (by repeat' constructor)) ?_
     intro hn77
     refine ls (o_app (is := [0]) Tryd.underlying34 inf51 rfl (by decide) (by decide) rfl rfl (by (try simp only [List.length_append, List.length_cons, List.length_nil]); have hll := linesT_len ((filesT ([] : List File) T false)[k]) ([]) (getL ([] : List File) (filesT ([] : List File) T false)[k]); omega) (fun _ h => hn77 h) rfl (by repeat' (first | constructor | apply Sub.suf)) rfl) ?_
     refine le ?_; rintro ⟨A78, c78⟩
     refine ls (op (p_asg rfl) rfl) ?_
     refine ln ?_
     refine nblock ?_
     refine nthen ?_
     refine cr ?_
     refine ls (op (p_add rfl rfl (by omega)) rfl) ?_
     refine ls (op (p_move rfl) rfl) ?_
     refine ln ?_
     refine nnext ⟨(k + 1, A78, c78), hk1⟩ (by dsimp only; omega) (fun a w h => by dsimp only; rw [fm_take hk1, show comeT ([] : List File) (filesT ([] : List File) T false)[k] = [pAd (filesT ([] : List File) T false)[k]] ++ linesT (filesT ([] : List File) T false)[k] [] (getL ([] : List File) (filesT ([] : List File) T false)[k]) from rfl, ← List.append_assoc, ← List.append_assoc]; exact wk (is := [0, 2, 2, 0, 0]) (by repeat (first | exact subσ.nil _ | refine subσ.cons rfl ?_)) rfl (by repeat' (first | constructor | apply Sub.suf)) a w h)
    ·
     intro h61
     dsimp only at hk
     try simp only [decide_eq_true_eq, decide_eq_false_iff_not, Bool.not_eq_true', Bool.not_eq_false', Int.not_lt, Int.not_le, ge_iff_le, Bool.not_true, Bool.not_false] at h61
     obtain rfl : k = (filesT ([] : List File) T false).length := by omega
     rw [List.take_length]
     refine cexit ?_
     refine xthen ?_
     refine xthen ?_
     refine xblock ?_
     refine nthen ?_
     refine cs ?_
     refine cs ?_
     refine cr ?_
     refine ls (op (p_move rfl) rfl) ?_
     refine ls (op (p_move rfl) rfl) ?_
     refine ls (o_call (is := [1, 1, 1, 1]) Tryd.call34 (c_files p b T p2 b2 ([] : List File) hT hn hU hn2 true) rfl rfl (by repeat' (first | constructor | apply Sub.suf)) rfl) ?_
     refine le ?_; rintro ⟨A82, c82⟩
     refine ls (op (p_lenl rfl Tryd.underlying22) rfl) ?_
     refine ls (op (p_move rfl) rfl) ?_
     refine ln ?_
     refine nthen ?_
     refine cb ?_
     refine cl (ι := {q : Nat × Option Addr × Nat // q.1 ≤ (filesT T ([] : List File) true).length}) (fun i => St M0 F0 w0 108 [(0, .pointer (some ⟨p, 0, none⟩)), (1, .pointer (some ⟨p2, 0, none⟩)), (5, .slice i.1.2.1 (((filesT T ([] : List File) false).flatMap (goneT T) ++ (filesT ([] : List File) T false).flatMap (comeT ([] : List File))) ++ ((filesT T ([] : List File) true).take (i.1.1)).flatMap (bothT T ([] : List File))).length i.1.2.2), (82, .slice A82 (filesT T ([] : List File) true).length c82), (83, .int .i64 (((filesT T ([] : List File) true).length : Nat) : Int)), (84, .int .i64 ((i.1.1 : Nat) : Int))] [row 51 (i.1.2.1) (i.1.2.2) (((filesT T ([] : List File) false).flatMap (goneT T) ++ (filesT ([] : List File) T false).flatMap (comeT ([] : List File))) ++ ((filesT T ([] : List File) true).take (i.1.1)).flatMap (bothT T ([] : List File))), box p 75 [.map (some b)], tr b T, box p2 75 [.map (some b2)], tr b2 []] [slA A82 (filesT T ([] : List File) true)]) (fun i => (filesT T ([] : List File) true).length - i.1.1) ⟨(0, A5, c5), Nat.zero_le _⟩ ((fun a w h => by dsimp only; rw [List.take_zero, List.flatMap_nil, List.append_nil]; exact wk (is := [4, 0, 0, 0, 0]) (by repeat (first | exact subσ.nil _ | refine subσ.cons rfl ?_)) rfl (by repeat' (first | constructor | apply Sub.suf)) a w h)) ?_
     rintro ⟨⟨k, A5, c5⟩, hk⟩
     refine cmono (S' := St M0 F0 w0 108 [(0, .pointer (some ⟨p, 0, none⟩)), (1, .pointer (some ⟨p2, 0, none⟩)), (5, .slice A5 (((filesT T ([] : List File) false).flatMap (goneT T) ++ (filesT ([] : List File) T false).flatMap (comeT ([] : List File))) ++ ((filesT T ([] : List File) true).take (k)).flatMap (bothT T ([] : List File))).length c5), (82, .slice A82 (filesT T ([] : List File) true).length c82), (83, .int .i64 (((filesT T ([] : List File) true).length : Nat) : Int)), (84, .int .i64 ((k : Nat) : Int))] [row 51 (A5) (c5) (((filesT T ([] : List File) false).flatMap (goneT T) ++ (filesT ([] : List File) T false).flatMap (comeT ([] : List File))) ++ ((filesT T ([] : List File) true).take (k)).flatMap (bothT T ([] : List File))), box p 75 [.map (some b)], tr b T, box p2 75 [.map (some b2)], tr b2 []] [slA A82 (filesT T ([] : List File) true)]) (fun _ _ h => h) ?_
     refine cs ?_
     refine cr ?_
     refine ls (op (p_icmp rfl rfl rfl) rfl) ?_
     refine ln ?_
     refine nthen ?_
     refine cs ?_
     refine cc rfl ?_ ?_
     ·
      intro h85
      dsimp only at hk
      try simp only [decide_eq_true_eq, decide_eq_false_iff_not, Bool.not_eq_true', Bool.not_eq_false', Int.not_lt, Int.not_le, ge_iff_le, Bool.not_true, Bool.not_false] at h85
      have hk1 : k < (filesT T ([] : List File) true).length := by omega
      have hb1 := fm_len (goneT_len T) (filesT T ([] : List File) false)
      have hb2 := fm_len (comeT_len ([] : List File)) (filesT ([] : List File) T false)
      have hb3 := fm_len (bothT_len T ([] : List File)) ((filesT T ([] : List File) true).take k)
      have hb4 := fm_len (goneT_len T) ((filesT T ([] : List File) false).take k)
      have hb5 := fm_len (comeT_len ([] : List File)) ((filesT ([] : List File) T false).take k)
      have hf1 := filesT_len T ([] : List File) false
      have hf2 := filesT_len ([] : List File) T false
      have hf3 := filesT_len T ([] : List File) true
      have ht1 := List.length_take_le k (filesT T ([] : List File) false)
      have ht2 := List.length_take_le k (filesT ([] : List File) T false)
      have ht3 := List.length_take_le k (filesT T ([] : List File) true)
      refine cskip ?_
      refine nthen ?_
      refine cs ?_
      refine cb ?_
      refine cs ?_
      refine elC (A := A82) (l := filesT T ([] : List File) true) (by repeat' constructor) k (List.getElem?_eq_getElem hk1) ?_; rintro zbp zop zyp hAp
      refine cr ?_
      refine ls (op (p_ia k hAp hk1 rfl Tryd.underlying22 Tryd.sizeOf9 rfl rfl) rfl) ?_
      refine ls (o_ldi Tryd.isAgg9 rfl (by repeat' constructor) 0 rfl (by repeat (first | exact Cut.d | apply Cut.t | apply Cut.s)) rfl) ?_
      refine ls (op (p_asg rfl) rfl) ?_
      refine ln ?_
      refine nthen ?_
      refine cs ?_
      refine cr ?_
      refine ls (op (p_move rfl) rfl) ?_
      refine ls (op (p_move rfl) rfl) ?_
      refine ls (o_call (is := [1, 1]) Tryd.call35 (c_tGet p b T hT (filesT T ([] : List File) true)[k]) rfl rfl (by repeat' (first | constructor | apply Sub.suf)) rfl) ?_
      refine le ?_; rintro ⟨A91, c91⟩
      refine lmono (fun a w h => freezeN (i := 0) rfl h) ?_
      refine lpure (St.cap (m := (getL T (filesT T ([] : List File) true)[k]).length) (c := c91) (by repeat' constructor)) ?_
      intro hcap91
      refine ls (op (p_move rfl) rfl) ?_
      refine ls (op (p_ext rfl (by repeat' constructor)) rfl) ?_
      refine ls (op (p_ext rfl (by repeat' constructor)) rfl) ?_
      refine ls (op (p_asg rfl) rfl) ?_
      refine ls (op (p_asg rfl) rfl) ?_
      refine ln ?_
      refine nthen ?_
      refine cs ?_
      refine cr ?_
      refine ls (op (p_move rfl) rfl) ?_
      refine ls (op (p_move rfl) rfl) ?_
      refine ls (o_call (is := [3, 3]) Tryd.call35 (c_tGet p2 b2 ([] : List File) hU (filesT T ([] : List File) true)[k]) rfl rfl (by repeat' (first | constructor | apply Sub.suf)) rfl) ?_
      refine le ?_; rintro ⟨A97, c97⟩
      refine lmono (fun a w h => freezeN (i := 0) rfl h) ?_
      refine lpure (St.cap (m := (getL ([] : List File) (filesT T ([] : List File) true)[k]).length) (c := c97) (by repeat' constructor)) ?_
      intro hcap97
      refine ls (op (p_move rfl) rfl) ?_
      refine ls (op (p_ext rfl (by repeat' constructor)) rfl) ?_
      refine ls (op (p_ext rfl (by repeat' constructor)) rfl) ?_
      refine ls (op (p_asg rfl) rfl) ?_
      refine ls (op (p_asg rfl) rfl) ?_
      refine ln ?_
      refine nthen ?_
      refine cr ?_
      refine ls (op (p_move rfl) rfl) ?_
      refine ls (op (p_move rfl) rfl) ?_
      refine ls (op (p_move rfl) rfl) ?_
      refine ls (op (p_move rfl) rfl) ?_
      refine ls (o_call (is := []) Tryd.call14 (c_dLines (filesT T ([] : List File) true)[k] (getL T (filesT T ([] : List File) true)[k]) (getL ([] : List File) (filesT T ([] : List File) true)[k]) A91 A97 c91 c97 (by have := hwT (filesT T ([] : List File) true)[k]; omega) (by have := hwU (filesT T ([] : List File) true)[k]; omega) hcap91 hcap97) rfl rfl (by repeat' (first | constructor | apply Sub.suf)) rfl) ?_
      refine le ?_; rintro ⟨A104, c104⟩
      refine lmono (fun a w h => freezeN (i := 0) rfl h) ?_
      refine lpure (St.nil (y := (A104, c104)) (by repeat' constructor)) ?_
      intro hn104
      refine ls (o_app (is := [4]) Tryd.underlying34 inf51 rfl (by decide) (by decide) rfl rfl (by (try simp only [List.length_append, List.length_cons, List.length_nil]); have hll := linesT_len ((filesT T ([] : List File) true)[k]) (getL T (filesT T ([] : List File) true)[k]) (getL ([] : List File) (filesT T ([] : List File) true)[k]); omega) (fun _ h => hn104 h) rfl (by repeat' (first | constructor | apply Sub.suf)) rfl) ?_
      refine le ?_; rintro ⟨A105, c105⟩
      refine ls (op (p_asg rfl) rfl) ?_
      refine ln ?_
      refine nblock ?_
      refine nthen ?_
      refine cr ?_
      refine ls (op (p_add rfl rfl (by omega)) rfl) ?_
      refine ls (op (p_move rfl) rfl) ?_
      refine ln ?_
      refine nnext ⟨(k + 1, A105, c105), hk1⟩ (by dsimp only; omega) (fun a w h => by dsimp only; rw [fm_take hk1, show bothT T ([] : List File) (filesT T ([] : List File) true)[k] = linesT (filesT T ([] : List File) true)[k] (getL T (filesT T ([] : List File) true)[k]) (getL ([] : List File) (filesT T ([] : List File) true)[k]) from rfl, ← List.append_assoc]; exact wk (is := [0, 2, 2, 0, 0]) (by repeat (first | exact subσ.nil _ | refine subσ.cons rfl ?_)) rfl (by repeat' (first | constructor | apply Sub.suf)) a w h)
     ·
      intro h85
      dsimp only at hk
      try simp only [decide_eq_true_eq, decide_eq_false_iff_not, Bool.not_eq_true', Bool.not_eq_false', Int.not_lt, Int.not_le, ge_iff_le, Bool.not_true, Bool.not_false] at h85
      obtain rfl : k = (filesT T ([] : List File) true).length := by omega
      rw [List.take_length]
      refine cexit ?_
      refine xthen ?_
      refine xthen ?_
      refine xblock ?_
      refine nthen ?_
      refine cs ?_
      refine cmono (fun a w h => rowEq (α := Prim) (by repeat' constructor) ((treesT_no hw).symm) (by repeat' constructor) h) ?_
      refine cr ?_
      refine ls (op (p_move rfl) rfl) ?_
      refine ls (op (p_asg rfl) rfl) ?_
      refine ln ?_
      refine nthen ?_
      refine cret ?_
      refine xret (fun _ _ h => h) ?_
      refine rret (is := [0, 0, 0]) (A5, c5) (Or.inl rfl) (Res.t rfl Res.d) ?_ rfl (by repeat' (first | constructor | apply Sub.suf))
      rw [treesT_no hw]; rfl

end Go.Proofs.YtdbiillompeclaaDoor.X

end
section
set_option linter.unusedVariables false
set_option linter.unusedSimpArgs false
namespace Go.Proofs.YtdbiillompeclaaDoor.X
open Go Go.RowKit Go.Proofs Go.Sx
/-! Law 06: what its laws say of it. -/
def few6 (l m : List ByteArray) : Bool := decide ((l.length : Int) ≤ 40) && decide ((m.length : Int) ≤ 40) && decide (((sizes l + sizes m : Nat) : Int) ≤ 4000)
theorem few6_yes {l m : List ByteArray} (h : few6 l m = true) : l.length ≤ 40 ∧ m.length ≤ 40 ∧ sizes l + sizes m ≤ 4000 := by
  unfold few6 at h
  simp only [Bool.and_eq_true, decide_eq_true_eq] at h
  omega
theorem few6_long {l m : List ByteArray} (h : few6 l m = true) : longB l m = false ∧ longB m l = false ∧ longB l l = false := by
  have := few6_yes h
  exact ⟨longB_two (by omega) (by omega), longB_two (by omega) (by omega), longB_two (by omega) (by omega)⟩
def sz2 (l m : List ByteArray) (k : Nat) : Nat := (([l, m].take k).map sizes).sum
theorem two_at {l m : List ByteArray} {k : Nat} (hk : k < 2) : ∃ r, [l, m][k]? = some r ∧ sz2 l m (k + 1) = sz2 l m k + sizes r ∧ r.length ≤ l.length + m.length ∧ sz2 l m (k + 1) ≤ sizes l + sizes m := by
  unfold sz2
  rcases k with _ | _ | k
  · exact ⟨l, rfl, by simp, by omega, by simp⟩
  · exact ⟨m, rfl, by simp, by omega, by simp⟩
  · omega
theorem sz2_all (l m : List ByteArray) : sz2 l m 2 = sizes l + sizes m := by simp [sz2]
/-! one line that is another one -/
theorem al6_comm : commF [⟨#[120]⟩, ⟨#[121]⟩, ⟨#[122]⟩] [⟨#[120]⟩, ⟨#[113]⟩, ⟨#[122]⟩] = [(0, 0), (2, 2)] := by
  refine (Comm.eq (l := [(0, 0), (2, 2)]) ⟨3, 3, ?_, by kernel_rfl⟩).symm
  have h1 : Chain [⟨#[120]⟩, ⟨#[121]⟩, ⟨#[122]⟩] [⟨#[120]⟩, ⟨#[113]⟩, ⟨#[122]⟩] ([] ++ [(0, 0)]) (0 + 1) (0 + 1) := by
    refine .snoc .nil (of_decide_eq_true (by kernel_rfl)) ⟨⟨Nat.le_refl _, Nat.le_refl _, by decide, by decide, rfl, rfl⟩, fun x' y' c => ?_⟩
    rcases Nat.eq_zero_or_pos x' with h | h
    · exact .inr ⟨h.symm, Nat.zero_le _⟩
    · exact .inl h
  have h2 : Chain [⟨#[120]⟩, ⟨#[121]⟩, ⟨#[122]⟩] [⟨#[120]⟩, ⟨#[113]⟩, ⟨#[122]⟩] (([] ++ [(0, 0)]) ++ [(2, 2)]) (2 + 1) (2 + 1) := by
    refine .snoc h1 (of_decide_eq_true (by kernel_rfl)) ⟨⟨by decide, by decide, by decide, by decide, rfl, by kernel_rfl⟩, fun x' y' c => ?_⟩
    obtain ⟨c1, c2, c3, c4, c5, _⟩ := c
    have c3' : x' < 3 := c3
    have c4' : y' < 3 := c4
    have hx : x' = 1 ∨ x' = 2 := by omega
    have hy : y' = 1 ∨ y' = 2 := by omega
    rcases hx with rfl | rfl <;> rcases hy with rfl | rfl
    · exact absurd c5 (of_decide_eq_false (by kernel_rfl))
    · exact absurd c5 (of_decide_eq_false (by kernel_rfl))
    · exact absurd c5 (of_decide_eq_false (by kernel_rfl))
    · exact .inr ⟨rfl, Nat.le_refl _⟩
  exact h2
def al6p : Prim := ⟨0, ⟨#[97]⟩, e0, 1, [⟨#[121]⟩], [⟨#[113]⟩]⟩
theorem al6_lines : linesT ⟨#[97]⟩ [⟨#[120]⟩, ⟨#[121]⟩, ⟨#[122]⟩] [⟨#[120]⟩, ⟨#[113]⟩, ⟨#[122]⟩] = [al6p] := by
  rw [linesT_not (by kernel_rfl), al6_comm]
  kernel_rfl
theorem comm_nil : commF [] [] = [] := (Comm.eq (l := []) ⟨0, 0, .nil, rfl⟩).symm
theorem lines_nil (nm : ByteArray) : linesT nm [] [] = [] := by
  rw [linesT_not (by rfl), comm_nil]
  rfl
theorem al6_trees : treesT [] [(⟨#[110]⟩, [])] = [pAd ⟨#[110]⟩] := by
  rw [treesT_no (by kernel_rfl)]
  have h1 : filesT [] [((⟨#[110]⟩ : ByteArray), ([] : List ByteArray))] false = [] := rfl
  have h2 : filesT [((⟨#[110]⟩ : ByteArray), ([] : List ByteArray))] [] false = [⟨#[110]⟩] := by kernel_rfl
  have h3 : filesT [] [((⟨#[110]⟩ : ByteArray), ([] : List ByteArray))] true = [] := rfl
  rw [h1, h2, h3]
  have h4 : getL [((⟨#[110]⟩ : ByteArray), ([] : List ByteArray))] ⟨#[110]⟩ = [] := by kernel_rfl
  simp only [List.flatMap_nil, List.flatMap_cons, List.nil_append, List.append_nil, comeT, h4, lines_nil]
theorem al6_add : tAdd [] ⟨#[110]⟩ = ([(⟨#[110]⟩, [])], 0) := by kernel_rfl
theorem al6_sor : Sor [((⟨#[110]⟩ : ByteArray), ([] : List ByteArray))] := List.pairwise_singleton _ _
/-! the laws -/
theorem cost_lines {nm : ByteArray} {l m : List ByteArray} (h : longB l m = false) : costL (linesT nm l m) + 2 * lcs l m = l.length + m.length := by
  rw [linesT_not h]; exact comm_cost (commF_spec l m)
theorem cost_turn {nm : ByteArray} {l m : List ByteArray} (h : longB l m = false) (h' : longB m l = false) : costL (linesT nm l m) = costL (linesT nm m l) := by
  have h1 := cost_lines (nm := nm) h
  have h2 := cost_lines (nm := nm) h'
  rw [lcs_comm m l] at h2
  omega
theorem lines_same {nm : ByteArray} {l : List ByteArray} (h : longB l l = false) : linesT nm l l = [] := by
  rw [linesT_not h]; exact comm_same (commF_spec l l)
theorem lines_cost_le {nm : ByteArray} {l m : List ByteArray} : costL (linesT nm l m) ≤ l.length + m.length := by
  cases h : longB l m with
  | true => rw [linesT_long h]; exact Nat.zero_le _
  | false => have := cost_lines (nm := nm) h; omega
theorem comm_at {l m : List ByteArray} {k : Nat} (hk : k < (commF l m).length) : ∃ (h1 : ((commF l m)[k]).1 < l.length) (h2 : ((commF l m)[k]).2 < m.length), l[((commF l m)[k]).1] = m[((commF l m)[k]).2] := by
  obtain ⟨i, j, h1, _⟩ := commF_spec l m
  exact (h1.at.1 _ (List.getElem_mem hk)).2.2
theorem comm_up {l m : List ByteArray} {k : Nat} (hk : k + 1 < (commF l m).length) : ((commF l m)[k]).1 < ((commF l m)[k + 1]).1 ∧ ((commF l m)[k]).2 < ((commF l m)[k + 1]).2 := by
  obtain ⟨i, j, h1, _⟩ := commF_spec l m
  exact List.pairwise_iff_getElem.1 h1.at.2 k (k + 1) (by omega) hk (Nat.lt_succ_self _)
theorem lcs_rep (s : ByteArray) : ∀ (n : Nat), lcs (List.replicate n s) [s] = min n 1
  | 0 => rfl
  | n + 1 => by
    rw [List.replicate_succ, lcs_cons, if_pos rfl, lcs_nilr]
    omega
theorem cost_rep {nm : ByteArray} {s : ByteArray} {n : Nat} (h : n ≤ 200) : costL (linesT nm (List.replicate n s) []) = n := by
  have := cost_lines (nm := nm) (l := List.replicate n s) (m := []) (longB_nilr (by simpa using h))
  rw [lcs_nilr] at this
  simpa using this
theorem lines_swap {nm : ByteArray} {l m : List ByteArray} {u v : Nat} (h : longB l m = false) (hn : nameOk nm = true) (ha : l.all lineOk = true) (hb : m.all lineOk = true) (huv : u < v) (hv : v < (linesT nm l m).length) :
    Go.Sx.swap ((linesT nm l m)[u]'(by omega)) (linesT nm l m)[v] = ({ (linesT nm l m)[v] with pos := ((linesT nm l m)[v]).pos - ((((linesT nm l m)[u]'(by omega)).new.length : Int) - ((linesT nm l m)[u]'(by omega)).old.length) }, (linesT nm l m)[u]'(by omega), true) := by
  have h1 := longB_no h
  have h2 : Hks nm l m (linesT nm l m) (l.length + 1) (m.length + 1) := by rw [linesT_not h]; exact comm_hks (commF_spec l m)
  exact h2.swap hn ha hb (by omega) (by omega) huv hv
theorem lines_fit {nm : ByteArray} {l m : List ByteArray} (h : longB l m = false) (hn : nm.size ≤ 2000000) (hl : ∀ s ∈ l, s.size ≤ 2000000) (hm : ∀ s ∈ m, s.size ≤ 2000000) : ∀ p ∈ linesT nm l m, p.fit := by
  have h1 := longB_no h
  have h2 : Hks nm l m (linesT nm l m) (l.length + 1) (m.length + 1) := by rw [linesT_not h]; exact comm_hks (commF_spec l m)
  intro p hp
  obtain ⟨i, k, x, y, _, _, rfl, _⟩ := h2.at_ p hp
  refine ⟨?_, ?_, hn, (Nat.zero_le 2000000 : (hunkP nm l m (i, k) (x, y)).to.size ≤ 2000000), fun s hs => hl s (List.mem_of_mem_drop (List.mem_of_mem_take hs)), fun s hs => hm s (List.mem_of_mem_drop (List.mem_of_mem_take hs))⟩
  · unfold hunkP; simp only [List.length_take, List.length_drop]; omega
  · unfold hunkP; simp only [List.length_take, List.length_drop]; omega
theorem sizes_in {l : List ByteArray} {s : ByteArray} (h : s ∈ l) : s.size ≤ sizes l := sizes_mem1 h
end Go.Proofs.YtdbiillompeclaaDoor.X

end
